/-
  What the claim stands on, part 2: Package run: what its functions compute. Ranges over functions whose state is told by ghosts. Package position: the positions of a document, in document order. Package position: positions, Count. Package document: the flows of a document. Package document: Flow; package position: length, CheckRange, Check. Equality of values that are made of ints. Package position: Index and Of. Package paragraph: the blocks of a flow. Package run: items. Regions that draw the order of their operations, in which several operations turn memory: values first, then whatever the state allows. Package run: divide, where no item is cut. Package document: notes and tables with their positions. Package document: Place. Halving: the least place at which a test holds; the place of a number in a list. Buffers of strings: the operations of strings.Builder.
-/
import Derived.Test.YtlnhhlighgaapaaGreatPa
import Derived.Laws.StructEq
import Derived.ChangeKeysEq
import Derived.Lib.Builder
import Derived.Lib.UnsafeStr
import Derived.Lib.AppendStr
import Derived.Laws.Externs
namespace Go.Proofs.YtlnhhlighgaapaaGreat
section
open Go.RowKit
theorem hmx : Tryz.prog.follows .mixedOrders = true := by kernel_rfl
theorem fd35_0run : Fld Tryz.prog 35 0 0 := ⟨by kernel_rfl⟩
theorem ty3run : Ty Tryz.prog 3 1 8 [.int .i64 0] false := ⟨by kernel_rfl, by kernel_rfl⟩
theorem fd35_3run : Fld Tryz.prog 35 3 3 := ⟨by kernel_rfl⟩
theorem ty9run : Ty Tryz.prog 9 1 16 [.string ⟨#[]⟩] false := ⟨by kernel_rfl, by kernel_rfl⟩
theorem en93run : ∀ args w, (callFunc 93 args).run Tryz.prog w = .ok (.enter 93 args) w := enters Tryz.func93 rfl (by kernel_rfl)
theorem un32run : Tryz.prog.underlying 32 = some (.slice 35) := by kernel_rfl
theorem ty35run : Ty Tryz.prog 35 11 176 [.int .i64 0, .int .i64 0, .int .i64 0, .string ⟨#[]⟩, .slice none 0 0, .int .i64 0, .int .i64 0, .slice none 0 0, .slice none 0 0, .slice none 0 0, .slice none 0 0] true := ⟨by kernel_rfl, by kernel_rfl⟩
theorem en34run : ∀ args w, (callFunc 34 args).run Tryz.prog w = .ok (.enter 34 args) w := enters Tryz.func34 rfl (by kernel_rfl)
theorem un25run : Tryz.prog.underlying 25 = some (.slice 40) := by kernel_rfl
theorem ty40run : Ty Tryz.prog 40 2 16 [.int .i64 0, .int .i64 0] true := ⟨by kernel_rfl, by kernel_rfl⟩
theorem un26run : Tryz.prog.underlying 26 = some (.slice 214) := by kernel_rfl
theorem ty214run : Ty Tryz.prog 214 2 16 [.int .i64 0, .int .i64 0] true := ⟨by kernel_rfl, by kernel_rfl⟩
theorem un27run : Tryz.prog.underlying 27 = some (.slice 217) := by kernel_rfl
theorem ty217run : Ty Tryz.prog 217 4 32 [.int .i64 0, .int .i64 0, .int .i64 0, .bool false] true := ⟨by kernel_rfl, by kernel_rfl⟩
theorem ty31run : Ty Tryz.prog 31 5 88 [.slice none 0 0, .int .i64 0, .int .i64 0, .slice none 0 0, .slice none 0 0] true := ⟨by kernel_rfl, by kernel_rfl⟩
theorem fd31_0run : Fld Tryz.prog 31 0 0 := ⟨by kernel_rfl⟩
theorem ty25run : Ty Tryz.prog 25 1 24 [.slice none 0 0] false := ⟨by kernel_rfl, by kernel_rfl⟩
theorem en98run : ∀ args w, (callFunc 98 args).run Tryz.prog w = .ok (.enter 98 args) w := enters Tryz.func98 rfl (by kernel_rfl)
theorem fd31_1run : Fld Tryz.prog 31 1 1 := ⟨by kernel_rfl⟩
theorem fd29_2run : Fld Tryz.prog 29 2 2 := ⟨by kernel_rfl⟩
theorem ty26run : Ty Tryz.prog 26 1 24 [.slice none 0 0] false := ⟨by kernel_rfl, by kernel_rfl⟩
theorem en150run : ∀ args w, (callFunc 150 args).run Tryz.prog w = .ok (.enter 150 args) w := enters Tryz.func150 rfl (by kernel_rfl)
theorem fd29_3run : Fld Tryz.prog 29 3 3 := ⟨by kernel_rfl⟩
theorem ty27run : Ty Tryz.prog 27 1 24 [.slice none 0 0] false := ⟨by kernel_rfl, by kernel_rfl⟩
theorem en151run : ∀ args w, (callFunc 151 args).run Tryz.prog w = .ok (.enter 151 args) w := enters Tryz.func151 rfl (by kernel_rfl)
theorem un33run : Tryz.prog.underlying 33 = some (.slice 171) := by kernel_rfl
theorem ty171run : Ty Tryz.prog 171 6 112 [.slice none 0 0, .int .i64 0, .int .i64 0, .slice none 0 0, .slice none 0 0, .slice none 0 0] true := ⟨by kernel_rfl, by kernel_rfl⟩
theorem un169run : Tryz.prog.underlying 169 = some (.slice 174) := by kernel_rfl
theorem ty174run : Ty Tryz.prog 174 7 120 [.int .i64 0, .slice none 0 0, .int .i64 0, .int .i64 0, .slice none 0 0, .slice none 0 0, .slice none 0 0] true := ⟨by kernel_rfl, by kernel_rfl⟩
theorem fd174_0run : Fld Tryz.prog 174 0 0 := ⟨by kernel_rfl⟩
theorem fd174_1run : Fld Tryz.prog 174 1 1 := ⟨by kernel_rfl⟩
theorem en70run : ∀ args w, (callFunc 70 args).run Tryz.prog w = .ok (.enter 70 args) w := enters Tryz.func70 rfl (by kernel_rfl)
theorem fd174_2run : Fld Tryz.prog 174 2 6 := ⟨by kernel_rfl⟩
theorem ty32run : Ty Tryz.prog 32 1 24 [.slice none 0 0] false := ⟨by kernel_rfl, by kernel_rfl⟩
theorem en69run : ∀ args w, (callFunc 69 args).run Tryz.prog w = .ok (.enter 69 args) w := enters Tryz.func69 rfl (by kernel_rfl)
theorem sr174run : Srt Tryz.prog 174 [(0, 1), (1, 5), (6, 1)] [.int .i64 0, .slice none 0 0, .int .i64 0, .int .i64 0, .slice none 0 0, .slice none 0 0, .slice none 0 0] := ⟨by kernel_rfl, by kernel_rfl⟩
theorem fd171_0run : Fld Tryz.prog 171 0 0 := ⟨by kernel_rfl⟩
theorem fd171_1run : Fld Tryz.prog 171 1 5 := ⟨by kernel_rfl⟩
theorem ty169run : Ty Tryz.prog 169 1 24 [.slice none 0 0] false := ⟨by kernel_rfl, by kernel_rfl⟩
theorem en201run : ∀ args w, (callFunc 201 args).run Tryz.prog w = .ok (.enter 201 args) w := enters Tryz.func201 rfl (by kernel_rfl)
theorem sr171run : Srt Tryz.prog 171 [(0, 5), (5, 1)] [.slice none 0 0, .int .i64 0, .int .i64 0, .slice none 0 0, .slice none 0 0, .slice none 0 0] := ⟨by kernel_rfl, by kernel_rfl⟩
theorem fd35_4run : Fld Tryz.prog 35 4 4 := ⟨by kernel_rfl⟩
theorem fd35_5run : Fld Tryz.prog 35 5 9 := ⟨by kernel_rfl⟩
theorem fd35_6run : Fld Tryz.prog 35 6 10 := ⟨by kernel_rfl⟩
theorem ty33run : Ty Tryz.prog 33 1 24 [.slice none 0 0] false := ⟨by kernel_rfl, by kernel_rfl⟩
theorem en148run : ∀ args w, (callFunc 148 args).run Tryz.prog w = .ok (.enter 148 args) w := enters Tryz.func148 rfl (by kernel_rfl)
theorem en146run : ∀ args w, (callFunc 146 args).run Tryz.prog w = .ok (.enter 146 args) w := enters Tryz.func146 rfl (by kernel_rfl)
theorem en202run : ∀ args w, (callFunc 202 args).run Tryz.prog w = .ok (.enter 202 args) w := enters Tryz.func202 rfl (by kernel_rfl)
theorem en149run : ∀ args w, (callFunc 149 args).run Tryz.prog w = .ok (.enter 149 args) w := enters Tryz.func149 rfl (by kernel_rfl)
theorem en147run : ∀ args w, (callFunc 147 args).run Tryz.prog w = .ok (.enter 147 args) w := enters Tryz.func147 rfl (by kernel_rfl)
/-- How many units an item has, and its error. -/
def unitsS (x : ItemD) : Nat := if x.kind = 1 then cntS x.text else 1
def unitsE (x : ItemD) : Int := if x.kind = 1 then utfS x.text else 0
theorem units_spec (G : GH) (w0 : World) (hG : Hold G w0) (x : ItemD) (i2 i3 : Int) (p i5 i6 d l f r : Value) (hs : x.text.size < 4611686018427387904) :
    Calls Tryz.prog 34 #[.agg #[vi x.kind, vi i2, vi i3, .string x.text, p, i5, i6, d, l, f, r]] w0 (Ret w0 G fun v G' => v = .tuple #[vi (unitsS x), vi (unitsE x)] ∧ G = G') := by
  refine enter (N := 12) (T := [(0, _)]) (F := fun k => k < w0.heap.size) (L := []) Tryz.func34 rfl Tryz.ntmps34 rfl rfl hG (fun _ h => h) (fun _ h => by cases h) (fun _ h => by cases h) (fun _ h => by cases h) List.Pairwise.nil ?_; intro a H; refine c_seqR (fun _ hK1 => ?_); refine s_box (cs := [_, _, _, _, _, _, _, _, _, _, _]) H wn rfl rfl rfl ?_; clear H; intro b1 a w hb1 H; (iterate 2 refine s_assign H wn rfl rfl ?_; clear H; intro a H); refine hK1 _ _ ?_; clear hK1; refine c_seq (fun _ hK2 => ?_); refine c_seqR (fun _ hK3 => ?_); refine s_field fd35_0run H wn rfl rfl ?_; clear H; intro a H; refine s_load ty3run H wn rfl (H.hp.ocell 0 rfl rfl) rfl ?_; clear H; intro a H; refine s_cmp H wn rfl rfl rfl rfl ?_; clear H; intro a H; refine hK3 _ _ ?_; clear hK3; refine c_cond H rfl ?_ ?_
  · intro h6
    try have p6 := of_decide_eq_true h6
    refine c_seqR (fun _ hK4 => ?_); (iterate 2 refine s_assign H wn rfl rfl ?_; clear H; intro a H); refine hK4 _ _ ?_; clear hK4; refine c_ret ?_; refine (leaveT H Tryz.results34 (.cons (rv_tmp H rfl) (.cons (rv_tmp H rfl) .nil)) ?_).1; exact H.hp.ret ⟨by simp only [unitsS, unitsE, if_neg p6]; rfl, rfl⟩
  intro h6
  try have p6 := of_decide_eq_false h6
  refine c_skip ?_; refine hK2 _ _ ?_; clear hK2; refine c_seqR (fun _ hK5 => ?_); refine s_field fd35_3run H wn rfl rfl ?_; clear H; intro a H; refine s_load ty9run H wn rfl (H.hp.ocell 0 rfl rfl) rfl ?_; clear H; intro a H; refine s_call en93run H wn rfl (count_spec _ _ H.hp.ro _ hs) rfl ?_; clear H; rintro v9 _ a w ⟨rfl, rfl⟩ - H; (iterate 2 refine s_extract H wn rfl rfl rfl ?_; clear H; intro a H); (iterate 2 refine s_assign H wn rfl rfl ?_; clear H; intro a H); refine hK5 _ _ ?_; clear hK5; refine c_ret ?_; refine (leaveT H Tryz.results34 (.cons (rv_tmp H rfl) (.cons (rv_tmp H rfl) .nil)) ?_).1; exact H.hp.ret ⟨by rw [Decidable.not_not] at p6; simp only [unitsS, unitsE, if_pos p6], rfl⟩
def divS (l : List ItemD) : Bool := l.all fun x => decide (unitsE x = 0)
def sumS : List ItemD → Nat
  | [] => 0
  | x :: l => unitsS x + sumS l
def lenS (l : List ItemD) : Int := if divS l then sumS l else 0
def lenE (l : List ItemD) : Int := if divS l then 0 else 12
def txtS : List ItemD → Nat
  | [] => 0
  | x :: l => x.text.size + 1 + txtS l
theorem sumS_le : ∀ l : List ItemD, sumS l ≤ txtS l
  | [] => Nat.le_refl _
  | x :: l => by
    have := sumS_le l; have h2 := cntS_le x.text
    simp only [sumS, txtS, unitsS]; split <;> omega
theorem txtS_mem {x : ItemD} : ∀ {l : List ItemD}, x ∈ l → x.text.size < txtS l
  | [], h => by cases h
  | y :: l, h => by
    simp only [txtS]
    rcases List.mem_cons.1 h with rfl | h
    · omega
    have := txtS_mem h; omega
theorem sumS_append (l m : List ItemD) : sumS (l ++ m) = sumS l + sumS m := by
  induction l with
  | nil => simp [sumS]
  | cons x l ih => simp [sumS, ih]; omega
theorem sumS_take_succ {l : List ItemD} {k : Nat} (h : k < l.length) : sumS (l.take (k + 1)) = sumS (l.take k) + unitsS l[k] := by
  rw [List.take_succ_eq_append_getElem h, sumS_append]; simp [sumS]
theorem txtS_append (l m : List ItemD) : txtS (l ++ m) = txtS l + txtS m := by
  induction l with
  | nil => simp [txtS]
  | cons x l ih => simp [txtS, ih]; omega
theorem txtS_take (l : List ItemD) (k : Nat) : txtS (l.take k) ≤ txtS l := by
  have := txtS_append (l.take k) (l.drop k); rw [List.take_append_drop] at this; omega
/-- An element of a flow that lies in memory. -/
theorem flow_get {G : GH} {l : List ItemD} {A : Option Addr} {k : Nat} (hk : k < l.length) (hg : ∀ k r, (l.map ItemD.dat)[k]? = some r → ∃ b o cs, A = some ⟨b, o, none⟩ ∧ cs.length = 11 ∧ (∀ j u, cs[j]? = some u → gcell G b (o + k * 11 + j) = some u) ∧ RepRow G r cs) :
    ∃ b o pA pn pc dA dn dc yA yn yc fA fn fc rA rn rc, A = some ⟨b, o, none⟩ ∧ (∀ j u, [vi l[k].kind, vi l[k].code, vi l[k].id, .string l[k].text, .slice pA pn pc, vi l[k].head.marks.ins, vi l[k].head.marks.move, .slice dA dn dc, .slice yA yn yc, .slice fA fn fc, .slice rA rn rc][j]? = some u → gcell G b (o + k * 11 + j) = some u) ∧
      HeadR G l[k].head (.slice pA pn pc) (.slice dA dn dc) (.slice yA yn yc) ∧ RepV G (.sl 11 (l[k].flow.map ItemD.dat)) (.slice fA fn fc) ∧ RepV G (.sl 6 (l[k].rows.map RowD.dat)) (.slice rA rn rc) := by
  obtain ⟨b, o, cs, h1, h2, h3, h4⟩ := hg k l[k].dat (by simp [hk]); obtain ⟨pA, pn, pc, dA, dn, dc, yA, yn, yc, fA, fn, fc, rA, rn, rc, rfl, h5, h6, h7⟩ := h4.item; exact ⟨b, o, pA, pn, pc, dA, dn, dc, yA, yn, yc, fA, fn, fc, rA, rn, rc, h1, h3, h5, h6, h7⟩
theorem divS_take_succ {l : List ItemD} {k : Nat} (h : k < l.length) : divS (l.take (k + 1)) = (divS (l.take k) && decide (unitsE l[k] = 0)) := by
  unfold divS
  rw [List.take_succ_eq_append_getElem h, List.all_append]; simp
theorem divS_split {l : List ItemD} {k : Nat} (h : k < l.length) (hn : ¬ unitsE l[k] = 0) : divS l = false := by
  unfold divS
  rw [List.all_eq_false]; exact ⟨l[k], List.getElem_mem h, by simpa using hn⟩
theorem length_le_txt : ∀ l : List ItemD, l.length ≤ txtS l
  | [] => Nat.le_refl _
  | x :: l => by have := length_le_txt l; simp only [List.length_cons, txtS]; omega
theorem txtS_le : ∀ l : List ItemD, txtS l ≤ zItems l
  | [] => Nat.le_refl _
  | x :: l => by
    have := txtS_le l; have h2 := zItem_eq x
    simp only [txtS, zItems, List.map_cons, szRs] at *; omega
theorem len_spec (G : GH) (w0 : World) (hG : Hold G w0) (l : List ItemD) (v : Value) (hv : RepV G (.sl 11 (l.map ItemD.dat)) v) (hz : zItems l ≤ 4294967296) :
    Calls Tryz.prog 8 #[v] w0 (Ret w0 G fun v G' => v = .tuple #[vi (lenS l), vi (lenE l)] ∧ G = G') := by
  obtain ⟨A, c, rfl, hc1, hc2, hg⟩ := hv.slice; rw [List.length_map] at *; have hll := length_le_txt l; have htz := txtS_le l; refine enter (N := 27) (T := [(0, _)]) (F := fun k => k < w0.heap.size) (L := []) Tryz.func8 rfl Tryz.ntmps8 rfl rfl hG (fun _ h => h) (fun _ h => by cases h) (fun _ h => by cases h) (fun _ h => by cases h) List.Pairwise.nil ?_; intro a H; refine c_seqR (fun _ hK1 => ?_); (iterate 2 refine s_assign H wn rfl rfl ?_; clear H; intro a H); refine hK1 _ _ ?_; clear hK1; refine c_seqR (fun _ hK2 => ?_); refine s_assign H wn rfl rfl ?_; clear H; intro a H; refine hK2 _ _ ?_; clear hK2; refine c_seq (fun _ hK3 => ?_); refine c_seqR (fun _ hK4 => ?_); refine s_move H wn rfl rfl ?_; clear H; intro a H; refine s_len un32run H wn rfl rfl ?_; clear H; intro a H; refine s_move H wn rfl rfl ?_; clear H; intro a H; refine hK4 _ _ ?_; clear hK4; refine c_block ?_; skip; refine c_loopS (ι := Nat) (Tc := [(9, _), (10, _)]) (Lc := []) (fun (gh : Nat) => [(4, vi (sumS (l.take gh))), (11, vi gh)]) (fun (gh : Nat) => []) (fun (gh : Nat) => G) (fun (gh : Nat) => gh ≤ l.length ∧ divS (l.take gh) = true) (fun (gh : Nat) => l.length - gh) (0) (by exact (H).sub ⟨rfl, rfl, rfl, rfl, trivial⟩) ?_ ?_
  · exact ⟨by omega, by simp [divS]⟩
  clear H; intro gh a w hI H; obtain ⟨k, hgh⟩ : ∃ x, x = gh := ⟨_, rfl⟩; subst hgh; obtain ⟨hk, hd⟩ := hI; dsimp only [List.cons_append, List.nil_append, List.append_nil] at H; refine c_seqR (fun _ hK5 => ?_); refine s_cmp H wn rfl rfl rfl rfl ?_; clear H; intro a H; refine hK5 _ _ ?_; clear hK5; refine c_seq (fun _ hK6 => ?_); refine c_cond H rfl ?_ ?_
  · intro h12
    try have p12 := of_decide_eq_true h12
    have hk2 : k < l.length := by omega
    obtain ⟨b, o, pA, pn, pc, dA, dn, dc, yA, yn, yc, fA, fn, fc, rA, rn, rc, rfl, hrow, -⟩ := flow_get hk2 hg; have hsm := sumS_take_succ hk2; have hle := sumS_le (l.take (k + 1)); have hle2 := txtS_take l (k + 1); refine c_skip ?_; refine hK6 _ _ ?_; clear hK6; refine c_seq (fun _ hK7 => ?_); refine c_block ?_; refine c_seqR (fun _ hK8 => ?_); refine s_index un32run ty35run _ H wn rfl rfl rfl (by first | assumption | omega) rfl ?_; clear H; intro a H; refine s_loada ty35run (cs := [_, _, _, _, _, _, _, _, _, _, _]) H wn rfl rfl (fun j v hj => H.hp.gcell (hrow j v hj)) rfl ?_; clear H; intro a H; refine s_alloc ty35run H wn rfl ?_; clear H; intro b6 a w hb6 H; refine s_store ty35run 0 (vs := [_, _, _, _, _, _, _, _, _, _, _]) _ H wn rfl rfl rfl rfl rfl rfl rfl rfl ?_; clear H; intro w H; dsimp only [List.set, setRow] at H; refine hK8 _ _ ?_; clear hK8; refine c_seqR (fun _ hK9 => ?_); refine s_loada ty35run (cs := [_, _, _, _, _, _, _, _, _, _, _]) H wn rfl rfl (H.hp.ocells 0 rfl rfl) rfl ?_; clear H; intro a H; refine s_call en34run H wn rfl (units_spec _ _ H.hp.ro _ _ _ _ _ _ _ _ _ _ (by have := txtS_mem (List.getElem_mem hk2); omega)) rfl ?_; clear H; rintro v17 _ a w ⟨rfl, rfl⟩ - H; refine s_move H wn rfl rfl ?_; clear H; intro a H; (iterate 2 refine s_extract H wn rfl rfl rfl ?_; clear H; intro a H); (iterate 2 refine s_assign H wn rfl rfl ?_; clear H; intro a H); refine hK9 _ _ ?_; clear hK9; refine c_seq (fun _ hK10 => ?_); refine c_seqR (fun _ hK11 => ?_); refine s_move H wn rfl rfl ?_; clear H; intro a H; refine s_cmp H wn rfl rfl rfl rfl ?_; clear H; intro a H; refine hK11 _ _ ?_; clear hK11; refine c_cond H rfl ?_ ?_
    · intro h21
      try have p21 := of_decide_eq_true h21
      refine c_seqR (fun _ hK12 => ?_); (iterate 2 refine s_assign H wn rfl rfl ?_; clear H; intro a H); refine hK12 _ _ ?_; clear hK12; refine c_ret ?_; refine (leaveT H Tryz.results8 (.cons (rv_tmp H rfl) (.cons (rv_tmp H rfl) .nil)) ?_).1; exact H.hp.ret ⟨by simp [lenS, lenE, divS_split hk2 p21], rfl⟩
    intro h21
    try have p21 := of_decide_eq_false h21
    refine c_skip ?_; refine hK10 _ _ ?_; clear hK10; refine c_region ?_; (iterate 2 refine s_move H wn rfl rfl ?_; clear H; intro a H); refine s_add _ H wn rfl rfl rfl (by omega) (by omega) rfl ?_; clear H; intro a H; rw [← Int.natCast_add, ← hsm] at H; refine s_assign H wn rfl rfl ?_; clear H; intro a H; refine wl_nil ?_; refine hK7 _ _ ?_; clear hK7; refine c_region ?_; refine s_add _ H wn rfl rfl rfl (by omega) (by omega) rfl ?_; clear H; intro a H; refine s_move H wn rfl rfl ?_; clear H; intro a H; refine wl_nil ?_; refine loop_end ((k + 1)) (by exact (H.pickT (Pl := [_]) (Pl' := []) [] (by decide) rfl).sub ⟨rfl, rfl, rfl, rfl, trivial⟩) ?_ ?_
    · exact ⟨by omega, by rw [divS_take_succ hk2, hd]; simpa using p21⟩
    first | omega | (dsimp only; omega)
  intro h12
  try have p12 := of_decide_eq_false h12
  refine c_exit ?_; refine hK3 _ _ ?_; clear hK3; refine c_seqR (fun _ hK13 => ?_); refine s_move H wn rfl rfl ?_; clear H; intro a H; (iterate 2 refine s_assign H wn rfl rfl ?_; clear H; intro a H); refine hK13 _ _ ?_; clear hK13; refine c_ret ?_; refine (leaveT H Tryz.results8 (.cons (rv_tmp H rfl) (.cons (rv_tmp H rfl) .nil)) ?_).1; exact H.hp.ret ⟨by rw [show l.take k = l from List.take_of_length_le (by omega)] at hd ⊢; simp [lenS, lenE, hd], rfl⟩
/-- A copy of a slice of Props. -/
theorem cloneProp_spec (G : GH) (w0 : World) (hG : Hold G w0) (rows : List (List Dat)) (A : Option Addr) (n c : Nat) (hv : RepV G (.sl 2 rows) (.slice A n c)) (hz : rows.length ≤ 4294967296) :
    Calls Tryz.prog 98 #[.slice A n c] w0 (Ret w0 G fun v G' => RepV G' (.sl 2 rows) v) := by
  obtain ⟨hn, hc1, hc2, hnil, hx⟩ := hv.cells; refine enter (N := 8) (T := [(0, _)]) (F := fun k => k < w0.heap.size) (L := []) Tryz.func98 rfl Tryz.ntmps98 rfl rfl hG (fun _ h => h) (fun _ h => by cases h) (fun _ h => by cases h) (fun _ h => by cases h) List.Pairwise.nil ?_; intro a H; refine c_seqR (fun _ hK1 => ?_); refine s_assign H wn rfl rfl ?_; clear H; intro a H; refine hK1 _ _ ?_; clear hK1; refine c_seq (fun _ hK2 => ?_); refine c_seqR (fun _ hK3 => ?_); refine s_move H wn rfl rfl ?_; clear H; intro a H; refine s_eqnil un25run H wn rfl rfl ?_; clear H; intro a H; refine hK3 _ _ ?_; clear hK3; refine c_cond H rfl ?_ ?_
  · intro h4
    try have p4 := of_decide_eq_true h4
    refine c_seqR (fun _ hK4 => ?_); refine s_assign H wn rfl rfl ?_; clear H; intro a H; refine hK4 _ _ ?_; clear hK4; refine c_ret ?_; refine (leave1 H Tryz.results98 (.cons (rv_tmp H rfl) .nil) ?_).1; exact H.hp.ret (by rw [hnil (by simpa using h4)]; exact RepV.nil_ rfl (by simp [maxLen]))
  intro h4
  try have p4 := of_decide_eq_false h4
  refine c_skip ?_; refine hK2 _ _ ?_; clear hK2; refine c_seq (fun _ hK5 => ?_)
  have hA : ¬ A = none := by intro e; rw [e] at h4; cases h4
  refine c_region ?_; refine s_buildSlice0 un25run ty40run H wn rfl ?_; clear H; intro b5 a w hb5 H; refine s_move H wn rfl rfl ?_; clear H; intro a H
  by_cases hr0 : rows = []
  · have hn0 : n = 0 := by rw [hn, hr0]; rfl
    subst hn0; refine s_append0 un25run ty40run H wn rfl rfl (Nat.le_refl _) rfl ?_; clear H; intro a H; refine s_assign H wn rfl rfl ?_; clear H; intro a H; refine wl_nil ?_; refine hK5 _ _ ?_; clear hK5; refine c_ret ?_; refine (leave1 H Tryz.results98 (.cons (rv_tmp H rfl) .nil) ?_).1; exact H.hp.ret (by rw [hr0]; exact RepV.nil_ rfl (by simp [maxLen]))
  obtain ⟨b, o, xs, rfl, hxl, hxc, hx1, hcat⟩ := hx hr0; refine s_append (Li := []) (Lo := [_]) (news := xs) un25run ty40run rfl rfl H wn rfl rfl IsRow.empty hxl (fun j u hj => H.hp.gcell (hxc j u hj)) hx1 (by omega) (by omega) rfl ?_; clear H; intro v7 Lo a w hrow H; obtain ⟨G', hm, hrep, H⟩ := H.giveRow hrow (rows := rows) (by omega) (by simpa using hcat)
  try clear hG
  obtain ⟨G2, hG2⟩ : ∃ g, g = G' := ⟨_, rfl⟩; subst hG2; refine s_assign H wn rfl rfl ?_; clear H; intro a H; refine wl_nil ?_; refine hK5 _ _ ?_; clear hK5; refine c_ret ?_; refine (leave1 H Tryz.results98 (.cons (rv_tmp H rfl) .nil) ?_).1; exact H.hp.ret hrep
/-- A copy of a slice of Dels. -/
theorem cloneDel_spec (G : GH) (w0 : World) (hG : Hold G w0) (rows : List (List Dat)) (A : Option Addr) (n c : Nat) (hv : RepV G (.sl 2 rows) (.slice A n c)) (hz : rows.length ≤ 4294967296) :
    Calls Tryz.prog 150 #[.slice A n c] w0 (Ret w0 G fun v G' => RepV G' (.sl 2 rows) v) := by
  obtain ⟨hn, hc1, hc2, hnil, hx⟩ := hv.cells; refine enter (N := 8) (T := [(0, _)]) (F := fun k => k < w0.heap.size) (L := []) Tryz.func150 rfl Tryz.ntmps150 rfl rfl hG (fun _ h => h) (fun _ h => by cases h) (fun _ h => by cases h) (fun _ h => by cases h) List.Pairwise.nil ?_; intro a H; refine c_seqR (fun _ hK1 => ?_); refine s_assign H wn rfl rfl ?_; clear H; intro a H; refine hK1 _ _ ?_; clear hK1; refine c_seq (fun _ hK2 => ?_); refine c_seqR (fun _ hK3 => ?_); refine s_move H wn rfl rfl ?_; clear H; intro a H; refine s_eqnil un26run H wn rfl rfl ?_; clear H; intro a H; refine hK3 _ _ ?_; clear hK3; refine c_cond H rfl ?_ ?_
  · intro h4
    try have p4 := of_decide_eq_true h4
    refine c_seqR (fun _ hK4 => ?_); refine s_assign H wn rfl rfl ?_; clear H; intro a H; refine hK4 _ _ ?_; clear hK4; refine c_ret ?_; refine (leave1 H Tryz.results150 (.cons (rv_tmp H rfl) .nil) ?_).1; exact H.hp.ret (by rw [hnil (by simpa using h4)]; exact RepV.nil_ rfl (by simp [maxLen]))
  intro h4
  try have p4 := of_decide_eq_false h4
  refine c_skip ?_; refine hK2 _ _ ?_; clear hK2; refine c_seq (fun _ hK5 => ?_)
  have hA : ¬ A = none := by intro e; rw [e] at h4; cases h4
  refine c_region ?_; refine s_buildSlice0 un26run ty214run H wn rfl ?_; clear H; intro b5 a w hb5 H; refine s_move H wn rfl rfl ?_; clear H; intro a H
  by_cases hr0 : rows = []
  · have hn0 : n = 0 := by rw [hn, hr0]; rfl
    subst hn0; refine s_append0 un26run ty214run H wn rfl rfl (Nat.le_refl _) rfl ?_; clear H; intro a H; refine s_assign H wn rfl rfl ?_; clear H; intro a H; refine wl_nil ?_; refine hK5 _ _ ?_; clear hK5; refine c_ret ?_; refine (leave1 H Tryz.results150 (.cons (rv_tmp H rfl) .nil) ?_).1; exact H.hp.ret (by rw [hr0]; exact RepV.nil_ rfl (by simp [maxLen]))
  obtain ⟨b, o, xs, rfl, hxl, hxc, hx1, hcat⟩ := hx hr0; refine s_append (Li := []) (Lo := [_]) (news := xs) un26run ty214run rfl rfl H wn rfl rfl IsRow.empty hxl (fun j u hj => H.hp.gcell (hxc j u hj)) hx1 (by omega) (by omega) rfl ?_; clear H; intro v7 Lo a w hrow H; obtain ⟨G', hm, hrep, H⟩ := H.giveRow hrow (rows := rows) (by omega) (by simpa using hcat)
  try clear hG
  obtain ⟨G2, hG2⟩ : ∃ g, g = G' := ⟨_, rfl⟩; subst hG2; refine s_assign H wn rfl rfl ?_; clear H; intro a H; refine wl_nil ?_; refine hK5 _ _ ?_; clear hK5; refine c_ret ?_; refine (leave1 H Tryz.results150 (.cons (rv_tmp H rfl) .nil) ?_).1; exact H.hp.ret hrep
/-- A copy of a slice of Layers. -/
theorem cloneLayer_spec (G : GH) (w0 : World) (hG : Hold G w0) (rows : List (List Dat)) (A : Option Addr) (n c : Nat) (hv : RepV G (.sl 4 rows) (.slice A n c)) (hz : rows.length ≤ 4294967296) :
    Calls Tryz.prog 151 #[.slice A n c] w0 (Ret w0 G fun v G' => RepV G' (.sl 4 rows) v) := by
  obtain ⟨hn, hc1, hc2, hnil, hx⟩ := hv.cells; refine enter (N := 8) (T := [(0, _)]) (F := fun k => k < w0.heap.size) (L := []) Tryz.func151 rfl Tryz.ntmps151 rfl rfl hG (fun _ h => h) (fun _ h => by cases h) (fun _ h => by cases h) (fun _ h => by cases h) List.Pairwise.nil ?_; intro a H; refine c_seqR (fun _ hK1 => ?_); refine s_assign H wn rfl rfl ?_; clear H; intro a H; refine hK1 _ _ ?_; clear hK1; refine c_seq (fun _ hK2 => ?_); refine c_seqR (fun _ hK3 => ?_); refine s_move H wn rfl rfl ?_; clear H; intro a H; refine s_eqnil un27run H wn rfl rfl ?_; clear H; intro a H; refine hK3 _ _ ?_; clear hK3; refine c_cond H rfl ?_ ?_
  · intro h4
    try have p4 := of_decide_eq_true h4
    refine c_seqR (fun _ hK4 => ?_); refine s_assign H wn rfl rfl ?_; clear H; intro a H; refine hK4 _ _ ?_; clear hK4; refine c_ret ?_; refine (leave1 H Tryz.results151 (.cons (rv_tmp H rfl) .nil) ?_).1; exact H.hp.ret (by rw [hnil (by simpa using h4)]; exact RepV.nil_ rfl (by simp [maxLen]))
  intro h4
  try have p4 := of_decide_eq_false h4
  refine c_skip ?_; refine hK2 _ _ ?_; clear hK2; refine c_seq (fun _ hK5 => ?_)
  have hA : ¬ A = none := by intro e; rw [e] at h4; cases h4
  refine c_region ?_; refine s_buildSlice0 un27run ty217run H wn rfl ?_; clear H; intro b5 a w hb5 H; refine s_move H wn rfl rfl ?_; clear H; intro a H
  by_cases hr0 : rows = []
  · have hn0 : n = 0 := by rw [hn, hr0]; rfl
    subst hn0; refine s_append0 un27run ty217run H wn rfl rfl (Nat.le_refl _) rfl ?_; clear H; intro a H; refine s_assign H wn rfl rfl ?_; clear H; intro a H; refine wl_nil ?_; refine hK5 _ _ ?_; clear hK5; refine c_ret ?_; refine (leave1 H Tryz.results151 (.cons (rv_tmp H rfl) .nil) ?_).1; exact H.hp.ret (by rw [hr0]; exact RepV.nil_ rfl (by simp [maxLen]))
  obtain ⟨b, o, xs, rfl, hxl, hxc, hx1, hcat⟩ := hx hr0; refine s_append (Li := []) (Lo := [_]) (news := xs) un27run ty217run rfl rfl H wn rfl rfl IsRow.empty hxl (fun j u hj => H.hp.gcell (hxc j u hj)) hx1 (by omega) (by omega) rfl ?_; clear H; intro v7 Lo a w hrow H; obtain ⟨G', hm, hrep, H⟩ := H.giveRow hrow (rows := rows) (by omega) (by simpa using hcat)
  try clear hG
  obtain ⟨G2, hG2⟩ : ∃ g, g = G' := ⟨_, rfl⟩; subst hG2; refine s_assign H wn rfl rfl ?_; clear H; intro a H; refine wl_nil ?_; refine hK5 _ _ ?_; clear hK5; refine c_ret ?_; refine (leave1 H Tryz.results151 (.cons (rv_tmp H rfl) .nil) ?_).1; exact H.hp.ret hrep
/-- A copy of a head. -/
theorem cloneHead_spec (G : GH) (w0 : World) (hG : Hold G w0) (h : HeadD) (pA dA yA : Option Addr) (pn pc dn dc yn yc : Nat) (hv : HeadR G h (.slice pA pn pc) (.slice dA dn dc) (.slice yA yn yc)) (hz : zHead h ≤ 4294967296) :
    Calls Tryz.prog 70 #[.agg #[.slice pA pn pc, vi h.marks.ins, vi h.marks.move, .slice dA dn dc, .slice yA yn yc]] w0 (Ret w0 G fun v G' => ∃ p d l, v = .agg #[p, vi h.marks.ins, vi h.marks.move, d, l] ∧ HeadR G' h p d l) := by
  have he := zHead_eq h; have h1 := szRs_length (h.props.map PropD.dat); have h2 := szRs_length (h.marks.dels.map DelD.dat); have h3 := szRs_length (h.marks.layers.map LayerD.dat); refine enter (N := 20) (T := [(0, _)]) (F := fun k => k < w0.heap.size) (L := []) Tryz.func70 rfl Tryz.ntmps70 rfl rfl hG (fun _ h => h) (fun _ h => by cases h) (fun _ h => by cases h) (fun _ h => by cases h) List.Pairwise.nil ?_; intro a H; refine c_seqR (fun _ hK1 => ?_); refine s_box (cs := [_, _, _, _, _]) H wn rfl rfl rfl ?_; clear H; intro b1 a w hb1 H; refine s_alloc ty31run H wn rfl ?_; clear H; intro b2 a w hb2 H; refine hK1 _ _ ?_; clear hK1; refine c_seqR (fun _ hK2 => ?_); refine s_field fd31_0run H wn rfl rfl ?_; clear H; intro a H; refine s_load ty25run H wn rfl (H.hp.ocell 1 rfl rfl) rfl ?_; clear H; intro a H; refine s_call en98run H wn rfl (cloneProp_spec _ _ H.hp.ro _ _ _ _ hv.props (by omega)) rfl ?_; clear H; rintro v5 G5 a w hp5 hm5 H; obtain ⟨A5, n5, c5, rfl⟩ := hp5.form; refine s_field fd31_0run H wn rfl rfl ?_; clear H; intro a H; refine s_store ty25run 1 (vs := [_]) _ H wn rfl rfl rfl rfl rfl rfl rfl rfl ?_; clear H; intro w H; dsimp only [List.set, setRow] at H; refine hK2 _ _ ?_; clear hK2; refine c_seq (fun _ hK3 => ?_); obtain ⟨hvp, hvd, hvy⟩ := hv.mono hm5; clear hv
  have hprm2 : ∀ (ix_ : Nat) (v : Value) (G G' : GH), (∀ k o, G k = some o → G' k = some o) → (fun (ix_ : Nat) (v : Value) (G : GH) => match ix_ with | 0 => v = .pointer (some ⟨b1, 1, none⟩) | 1 => v = .pointer (some ⟨b1, 3, none⟩) | 2 => v = .slice dA dn dc | 3 => RepV G (.sl 2 (h.marks.dels.map DelD.dat)) v | 4 => v = .pointer (some ⟨b1, 1, none⟩) | 5 => v = .pointer (some ⟨b1, 4, none⟩) | 6 => v = .slice yA yn yc | 7 => RepV G (.sl 4 (h.marks.layers.map LayerD.dat)) v | 8 => v = .pointer (some ⟨b1, 1, none⟩) | 9 => v = .pointer (some ⟨b1, 3, none⟩) | _ => True) ix_ v G → (fun (ix_ : Nat) (v : Value) (G : GH) => match ix_ with | 0 => v = .pointer (some ⟨b1, 1, none⟩) | 1 => v = .pointer (some ⟨b1, 3, none⟩) | 2 => v = .slice dA dn dc | 3 => RepV G (.sl 2 (h.marks.dels.map DelD.dat)) v | 4 => v = .pointer (some ⟨b1, 1, none⟩) | 5 => v = .pointer (some ⟨b1, 4, none⟩) | 6 => v = .slice yA yn yc | 7 => RepV G (.sl 4 (h.marks.layers.map LayerD.dat)) v | 8 => v = .pointer (some ⟨b1, 1, none⟩) | 9 => v = .pointer (some ⟨b1, 3, none⟩) | _ => True) ix_ v G' := by
    intro ix_ v G G' hm h
    match ix_, h with
    | 0, h => exact h
    | 1, h => exact h
    | 2, h => exact h
    | 3, h => exact RepV.mono hm h
    | 4, h => exact h
    | 5, h => exact h
    | 6, h => exact h
    | 7, h => exact RepV.mono hm h
    | 8, h => exact h
    | 9, h => exact h
    | 10, h => exact trivial
    | 11, h => exact trivial
    | 12, h => exact trivial
    | 13, h => exact trivial
    | _ + 14, h => exact trivial
  refine c_drawI (hmx) [[], [0], [0, 1], [0, 1, 2], [], [4], [4, 5], [0, 1, 2, 3, 4, 5, 6], [0, 1, 2, 3, 4, 5, 6], [0, 1, 2, 3, 4, 5, 6, 8], [0, 1, 2, 3, 4, 5, 6, 7, 8, 9], [0, 1, 2, 3, 4, 5, 6, 7, 8, 9, 10], [0, 1, 2, 3, 4, 5, 6, 7, 8, 9, 10, 11], [0, 1, 2, 3, 4, 5, 6, 7, 8, 9, 10, 11, 12]] [10, 11, 12, 13] (by kernel_rfl) (by kernel_rfl) (fun (ix_ : Nat) (v : Value) (G : GH) => match ix_ with | 0 => v = .pointer (some ⟨b1, 1, none⟩) | 1 => v = .pointer (some ⟨b1, 3, none⟩) | 2 => v = .slice dA dn dc | 3 => RepV G (.sl 2 (h.marks.dels.map DelD.dat)) v | 4 => v = .pointer (some ⟨b1, 1, none⟩) | 5 => v = .pointer (some ⟨b1, 4, none⟩) | 6 => v = .slice yA yn yc | 7 => RepV G (.sl 4 (h.marks.layers.map LayerD.dat)) v | 8 => v = .pointer (some ⟨b1, 1, none⟩) | 9 => v = .pointer (some ⟨b1, 3, none⟩) | _ => True) hprm2 H ?_ ?_
  · clear H; refine (allI_cons ?_ (allI_cons ?_ (allI_cons ?_ (allI_cons ?_ (allI_cons ?_ (allI_cons ?_ (allI_cons ?_ (allI_cons ?_ (allI_cons ?_ (allI_cons ?_ (allI_cons ?_ (allI_cons ?_ (allI_cons ?_ (allI_cons ?_ allI_nil))))))))))))))
    · refine opI [] rfl trivial (by kernel_rfl) hprm2 rfl rfl ?_; intro Sd_ a w G1 hG HT H fin; refine s_field fd31_1run H wn rfl rfl ?_; clear H; intro a H; exact fin H (fun _ _ h => h) (rfl)
    · refine opI [(0, 7, _)] rfl ⟨fun _ _ h => h, trivial⟩ (by kernel_rfl) hprm2 rfl rfl ?_; intro Sd_ a w G1 hG HT H fin; refine s_field fd29_2run H wn rfl rfl ?_; clear H; intro a H; exact fin H (fun _ _ h => h) (rfl)
    · refine opI [(1, 8, _)] rfl ⟨fun _ _ h => h, trivial⟩ (by kernel_rfl) hprm2 rfl rfl ?_; intro Sd_ a w G1 hG HT H fin; refine s_load ty26run H wn rfl (H.hp.ocell 1 rfl rfl) rfl ?_; clear H; intro a H; exact fin H (fun _ _ h => h) (rfl)
    · refine opI [(2, 9, _)] rfl ⟨fun _ _ h => h, trivial⟩ (by kernel_rfl) hprm2 rfl rfl ?_; intro Sd_ a w G1 hG HT H fin; refine s_call en150run H wn rfl (cloneDel_spec _ _ H.hp.ro _ _ _ _ (hvd.mono hG) (by omega)) rfl ?_; clear H; rintro v10 G10 a w hp10 hGm10 H; exact fin H hGm10 (hp10)
    · refine opI [] rfl trivial (by kernel_rfl) hprm2 rfl rfl ?_; intro Sd_ a w G1 hG HT H fin; refine s_field fd31_1run H wn rfl rfl ?_; clear H; intro a H; exact fin H (fun _ _ h => h) (rfl)
    · refine opI [(4, 11, _)] rfl ⟨fun _ _ h => h, trivial⟩ (by kernel_rfl) hprm2 rfl rfl ?_; intro Sd_ a w G1 hG HT H fin; refine s_field fd29_3run H wn rfl rfl ?_; clear H; intro a H; exact fin H (fun _ _ h => h) (rfl)
    · refine opI [(5, 12, _)] rfl ⟨fun _ _ h => h, trivial⟩ (by kernel_rfl) hprm2 rfl rfl ?_; intro Sd_ a w G1 hG HT H fin; refine s_load ty27run H wn rfl (H.hp.ocell 1 rfl rfl) rfl ?_; clear H; intro a H; exact fin H (fun _ _ h => h) (rfl)
    · refine opI [(6, 13, _)] rfl ⟨fun _ _ h => h, trivial⟩ (by kernel_rfl) hprm2 rfl rfl ?_; intro Sd_ a w G1 hG HT H fin; refine s_call en151run H wn rfl (cloneLayer_spec _ _ H.hp.ro _ _ _ _ (hvy.mono hG) (by omega)) rfl ?_; clear H; rintro v14 G14 a w hp14 hGm14 H; exact fin H hGm14 (hp14)
    · refine opI [] rfl trivial (by kernel_rfl) hprm2 rfl rfl ?_; intro Sd_ a w G1 hG HT H fin; refine s_field fd31_1run H wn rfl rfl ?_; clear H; intro a H; exact fin H (fun _ _ h => h) (rfl)
    · refine opI [(8, 15, _)] rfl ⟨fun _ _ h => h, trivial⟩ (by kernel_rfl) hprm2 rfl rfl ?_; intro Sd_ a w G1 hG HT H fin; refine s_field fd29_2run H wn rfl rfl ?_; clear H; intro a H; exact fin H (fun _ _ h => h) (rfl)
    · intro _ _ _ _ hB; exact absurd hB (by decide)
    · intro _ _ _ _ hB; exact absurd hB (by decide)
    · intro _ _ _ _ hB; exact absurd hB (by decide)
    intro _ _ _ _ hB; exact absurd hB (by decide)
  clear H; intro a w G hGm2 H hv; obtain ⟨u10, hu10, hp10⟩ := hv 3 10 (by decide) rfl; (try dsimp only at hp10); obtain ⟨A10, n10, c10, rfl⟩ := hp10.form; have H := H.addS hu10; obtain ⟨u14, hu14, hp14⟩ := hv 7 14 (by decide) rfl; (try dsimp only at hp14); obtain ⟨A14, n14, c14, rfl⟩ := hp14.form; have H := H.addS hu14; obtain ⟨u16, hu16, hp16⟩ := hv 9 16 (by decide) rfl; obtain rfl : u16 = .pointer (some ⟨b1, 3, none⟩) := hp16; have H := H.addS hu16; clear hv; refine s_store ty26run 1 (vs := [_]) _ H wn rfl rfl rfl rfl rfl rfl rfl rfl ?_; clear H; intro w H; dsimp only [List.set, setRow] at H; refine s_field fd31_1run H wn rfl rfl ?_; clear H; intro a H; refine s_field fd29_3run H wn rfl rfl ?_; clear H; intro a H; refine s_store ty27run 1 (vs := [_]) _ H wn rfl rfl rfl rfl rfl rfl rfl rfl ?_; clear H; intro w H; dsimp only [List.set, setRow] at H; refine wl_nil ⟨rfl, ?_⟩; refine hK3 _ _ ?_; clear hK3; refine c_seqR (fun _ hK4 => ?_); refine s_loada ty31run (cs := [_, _, _, _, _]) H wn rfl rfl (H.hp.ocells 1 rfl rfl) rfl ?_; clear H; intro a H; refine s_store ty31run 0 (vs := [_, _, _, _, _]) _ H wn rfl rfl rfl rfl rfl rfl rfl rfl ?_; clear H; intro w H; dsimp only [List.set, setRow] at H; refine hK4 _ _ ?_; clear hK4; refine c_ret ?_; refine (leave1 H Tryz.results70 (.cons (rv_cella ty31run (cs := [_, _, _, _, _]) H rfl rfl (H.hp.ocells 0 rfl rfl)) .nil) ?_).1; exact H.hp.ret ⟨_, _, _, rfl, hp5.mono hGm2, hp10, hp14⟩
/-- What a copier of elements owes. -/
def Copier (fv : Value) (w0 : World) (G : GH) (d : List Dat) : Prop := ∀ (G1 : GH) (w1 : World) (cs : List Value), (∀ b o, G b = some o → G1 b = some o) → Hold G1 w1 → RepRow G1 d cs →
  CallV Tryz.prog fv [.agg cs.toArray] w1 (Ret w1 G1 fun u G' => ∃ cs', u = .agg cs'.toArray ∧ RepRow G' d cs')
/-- The list of the copies of Items. -/
theorem eachItem_spec (G : GH) (w0 : World) (hG : Hold G w0) (l : List ItemD) (v fv : Value) (hv : RepV G (.sl 11 (l.map ItemD.dat)) v) (hz : l.length ≤ 4294967296) (hf : ∀ x ∈ l, Copier fv w0 G x.dat) :
    Calls Tryz.prog 146 #[v, fv] w0 (Ret w0 G fun u G' => RepV G' (.sl 11 (l.map ItemD.dat)) u) := by
  obtain ⟨A, c, rfl, hc1, hc2, hg⟩ := hv.slice
  have hml : 4294967297 ≤ maxLen := by decide
  rw [List.length_map] at *; refine enter (N := 22) (T := [(0, _), (1, _)]) (F := fun k => k < w0.heap.size) (L := []) Tryz.func146 rfl Tryz.ntmps146 rfl rfl hG (fun _ h => h) (fun _ h => by cases h) (fun _ h => by cases h) (fun _ h => by cases h) List.Pairwise.nil ?_; intro a H; refine c_seqR (fun _ hK1 => ?_); refine s_assign H wn rfl rfl ?_; clear H; intro a H; refine hK1 _ _ ?_; clear hK1; refine c_seqR (fun _ hK2 => ?_); refine s_assign H wn rfl rfl ?_; clear H; intro a H; refine hK2 _ _ ?_; clear hK2; refine c_seq (fun _ hK3 => ?_); refine c_seqR (fun _ hK4 => ?_); refine s_move H wn rfl rfl ?_; clear H; intro a H; refine s_len un32run H wn rfl rfl ?_; clear H; intro a H; refine s_move H wn rfl rfl ?_; clear H; intro a H; refine hK4 _ _ ?_; clear hK4; refine c_block ?_; skip; refine c_loopS (ι := Nat × Value × List Value × OL × GH) (Tc := [(1, _), (8, _), (9, _)]) (Lc := []) (fun (gh : Nat × Value × List Value × OL × GH) => [(5, gh.2.1), (10, vi gh.1)]) (fun (gh : Nat × Value × List Value × OL × GH) => [] ++ gh.2.2.2.1) (fun (gh : Nat × Value × List Value × OL × GH) => gh.2.2.2.2) (fun (gh : Nat × Value × List Value × OL × GH) => gh.1 ≤ l.length ∧ IsRow 35 11 gh.2.1 gh.1 gh.2.2.1 gh.2.2.2.1 ∧ RepCat gh.2.2.2.2 11 ((l.map ItemD.dat).take gh.1) gh.2.2.1 ∧ (∀ b o, G b = some o → gh.2.2.2.2 b = some o)) (fun (gh : Nat × Value × List Value × OL × GH) => l.length - gh.1) ((0, .slice none 0 0, [], [], G)) (by exact (H).sub ⟨rfl, rfl, rfl, rfl, rfl, trivial⟩) ?_ ?_
  · exact ⟨by omega, IsRow.nil, by simpa using RepCat.nil, fun _ _ h => h⟩
  clear H; intro gh a w hI H; obtain ⟨k, v, xs, Lo, g⟩ := gh; dsimp only at hI H; obtain ⟨hk, hrw, hcat, hgm⟩ := hI; dsimp only [List.cons_append, List.nil_append, List.append_nil] at H; refine c_seqR (fun _ hK5 => ?_); refine s_cmp H wn rfl rfl rfl rfl ?_; clear H; intro a H; refine hK5 _ _ ?_; clear hK5; refine c_seq (fun _ hK6 => ?_); refine c_cond H rfl ?_ ?_
  · intro h11
    try have p11 := of_decide_eq_true h11
    have hk2 : k < l.length := by omega
    obtain ⟨b, o, cs, rfl, hcl, hrow, hrep⟩ := hg k l[k].dat (by simp [hk2]); obtain ⟨pA, pn, pc, dA, dn, dc, yA, yn, yc, fA, fn, fc, rA, rn, rc, rfl, -⟩ := hrep.item; replace hrow := fun j u hj => gcell_mono hgm (hrow j u hj); refine c_skip ?_; refine hK6 _ _ ?_; clear hK6; refine c_seq (fun _ hK7 => ?_); refine c_block ?_; refine c_seqR (fun _ hK8 => ?_); refine s_index un32run ty35run _ H wn rfl rfl rfl (by first | assumption | omega) rfl ?_; clear H; intro a H; refine s_loada ty35run (cs := [_, _, _, _, _, _, _, _, _, _, _]) H wn rfl rfl (fun j v hj => H.hp.gcell (hrow j v hj)) rfl ?_; clear H; intro a H; refine s_alloc ty35run H wn rfl ?_; clear H; intro b7 a w hb7 H; refine s_store ty35run 0 (vs := [_, _, _, _, _, _, _, _, _, _, _]) _ H wn rfl rfl rfl rfl rfl rfl rfl rfl ?_; clear H; intro w H; dsimp only [List.set, setRow] at H; refine hK8 _ _ ?_; clear hK8; refine c_region ?_; (iterate 2 refine s_move H wn rfl rfl ?_; clear H; intro a H); refine s_loada ty35run (cs := [_, _, _, _, _, _, _, _, _, _, _]) H wn rfl rfl (H.hp.ocells 0 rfl rfl) rfl ?_; clear H; intro a H; refine s_callv0 H wn rfl rfl (hf _ (List.getElem_mem hk2) _ _ _ hgm H.hp.ro (hrep.mono hgm)) rfl ?_; clear H; rintro v17 G17 a w ⟨cs17, rfl, h17⟩ hm17 H; obtain ⟨cs, hcs⟩ : ∃ cs, cs = cs17 := ⟨_, rfl⟩; obtain ⟨pA, pn, pc, dA, dn, dc, yA, yn, yc, fA, fn, fc, rA, rn, rc, hcs17, -⟩ := h17.item; rw [hcs17] at H; refine s_buildSlice un32run ty35run [_, _, _, _, _, _, _, _, _, _, _] [_, _, _, _, _, _, _, _, _, _, _] H wn rfl rfl rfl rfl rfl (by intro i q h; match i, h with | 0, h => exact h | n + 1, h => simp at h) rfl rfl ?_; clear H; intro b18 a w hb18 H; refine s_append (Li := [_, _]) (Lo := Lo) (news := cs17) un32run ty35run rfl rfl H wn rfl rfl hrw (by rw [hcs17]; rfl) (by rw [hcs17]; exact H.hp.ocells 0 rfl rfl) h17.one (by omega) (by omega) rfl ?_; clear H; intro v19 Lo19 a w hrw19 H; refine s_assign H wn rfl rfl ?_; clear H; intro a H; refine wl_nil ?_; refine hK7 _ _ ?_; clear hK7; refine c_region ?_; refine s_add _ H wn rfl rfl rfl (by omega) (by omega) rfl ?_; clear H; intro a H; refine s_move H wn rfl rfl ?_; clear H; intro a H; refine wl_nil ?_; refine loop_end ((k + 1, v19, xs ++ cs17, Lo19, G17)) (by exact (H.pickT (Pl := [_, _]) (Pl' := []) [] (by decide) rfl).sub ⟨rfl, rfl, rfl, rfl, rfl, trivial⟩) ?_ ?_
    · (try dsimp only); refine ⟨by omega, hrw19, ?_, fun b o h => hm17 b o (hgm b o h)⟩; rw [List.take_succ_eq_append_getElem (by simpa using hk2)]; exact (hcat.mono hm17).snoc (by simpa using h17) (by rw [hcs17]; rfl)
    first | omega | (dsimp only; omega)
  intro h11
  try have p11 := of_decide_eq_false h11
  refine c_exit ?_; refine hK3 _ _ ?_; clear hK3; refine c_seq (fun _ hK9 => ?_); obtain ⟨G', hm, hrep, H⟩ := H.giveRow (Li := []) hrw (rows := l.map ItemD.dat) (by simp; omega) (by rw [List.take_of_length_le (by simp; omega)] at hcat; exact hcat); refine c_region ?_; refine s_move H wn rfl rfl ?_; clear H; intro a H; refine s_assign H wn rfl rfl ?_; clear H; intro a H; refine wl_nil ?_; refine hK9 _ _ ?_; clear hK9; refine c_ret ?_; refine (leave1 H Tryz.results146 (.cons (rv_tmp H rfl) .nil) ?_).1; exact H.hp.ret hrep
/-- The list of the copies of Rows. -/
theorem eachRow_spec (G : GH) (w0 : World) (hG : Hold G w0) (l : List RowD) (v fv : Value) (hv : RepV G (.sl 6 (l.map RowD.dat)) v) (hz : l.length ≤ 4294967296) (hf : ∀ x ∈ l, Copier fv w0 G x.dat) :
    Calls Tryz.prog 148 #[v, fv] w0 (Ret w0 G fun u G' => RepV G' (.sl 6 (l.map RowD.dat)) u) := by
  obtain ⟨A, c, rfl, hc1, hc2, hg⟩ := hv.slice
  have hml : 4294967297 ≤ maxLen := by decide
  rw [List.length_map] at *; refine enter (N := 22) (T := [(0, _), (1, _)]) (F := fun k => k < w0.heap.size) (L := []) Tryz.func148 rfl Tryz.ntmps148 rfl rfl hG (fun _ h => h) (fun _ h => by cases h) (fun _ h => by cases h) (fun _ h => by cases h) List.Pairwise.nil ?_; intro a H; refine c_seqR (fun _ hK1 => ?_); refine s_assign H wn rfl rfl ?_; clear H; intro a H; refine hK1 _ _ ?_; clear hK1; refine c_seqR (fun _ hK2 => ?_); refine s_assign H wn rfl rfl ?_; clear H; intro a H; refine hK2 _ _ ?_; clear hK2; refine c_seq (fun _ hK3 => ?_); refine c_seqR (fun _ hK4 => ?_); refine s_move H wn rfl rfl ?_; clear H; intro a H; refine s_len un33run H wn rfl rfl ?_; clear H; intro a H; refine s_move H wn rfl rfl ?_; clear H; intro a H; refine hK4 _ _ ?_; clear hK4; refine c_block ?_; skip; refine c_loopS (ι := Nat × Value × List Value × OL × GH) (Tc := [(1, _), (8, _), (9, _)]) (Lc := []) (fun (gh : Nat × Value × List Value × OL × GH) => [(5, gh.2.1), (10, vi gh.1)]) (fun (gh : Nat × Value × List Value × OL × GH) => [] ++ gh.2.2.2.1) (fun (gh : Nat × Value × List Value × OL × GH) => gh.2.2.2.2) (fun (gh : Nat × Value × List Value × OL × GH) => gh.1 ≤ l.length ∧ IsRow 171 6 gh.2.1 gh.1 gh.2.2.1 gh.2.2.2.1 ∧ RepCat gh.2.2.2.2 6 ((l.map RowD.dat).take gh.1) gh.2.2.1 ∧ (∀ b o, G b = some o → gh.2.2.2.2 b = some o)) (fun (gh : Nat × Value × List Value × OL × GH) => l.length - gh.1) ((0, .slice none 0 0, [], [], G)) (by exact (H).sub ⟨rfl, rfl, rfl, rfl, rfl, trivial⟩) ?_ ?_
  · exact ⟨by omega, IsRow.nil, by simpa using RepCat.nil, fun _ _ h => h⟩
  clear H; intro gh a w hI H; obtain ⟨k, v, xs, Lo, g⟩ := gh; dsimp only at hI H; obtain ⟨hk, hrw, hcat, hgm⟩ := hI; dsimp only [List.cons_append, List.nil_append, List.append_nil] at H; refine c_seqR (fun _ hK5 => ?_); refine s_cmp H wn rfl rfl rfl rfl ?_; clear H; intro a H; refine hK5 _ _ ?_; clear hK5; refine c_seq (fun _ hK6 => ?_); refine c_cond H rfl ?_ ?_
  · intro h11
    try have p11 := of_decide_eq_true h11
    have hk2 : k < l.length := by omega
    obtain ⟨b, o, cs, rfl, hcl, hrow, hrep⟩ := hg k l[k].dat (by simp [hk2]); obtain ⟨pA, pn, pc, dA, dn, dc, yA, yn, yc, fA, fn, fc, rfl, -⟩ := hrep.row; replace hrow := fun j u hj => gcell_mono hgm (hrow j u hj); refine c_skip ?_; refine hK6 _ _ ?_; clear hK6; refine c_seq (fun _ hK7 => ?_); refine c_block ?_; refine c_seqR (fun _ hK8 => ?_); refine s_index un33run ty171run _ H wn rfl rfl rfl (by first | assumption | omega) rfl ?_; clear H; intro a H; refine s_loada ty171run (cs := [_, _, _, _, _, _]) H wn rfl rfl (fun j v hj => H.hp.gcell (hrow j v hj)) rfl ?_; clear H; intro a H; refine s_alloc ty171run H wn rfl ?_; clear H; intro b7 a w hb7 H; refine s_store ty171run 0 (vs := [_, _, _, _, _, _]) _ H wn rfl rfl rfl rfl rfl rfl rfl rfl ?_; clear H; intro w H; dsimp only [List.set, setRow] at H; refine hK8 _ _ ?_; clear hK8; refine c_region ?_; (iterate 2 refine s_move H wn rfl rfl ?_; clear H; intro a H); refine s_loada ty171run (cs := [_, _, _, _, _, _]) H wn rfl rfl (H.hp.ocells 0 rfl rfl) rfl ?_; clear H; intro a H; refine s_callv0 H wn rfl rfl (hf _ (List.getElem_mem hk2) _ _ _ hgm H.hp.ro (hrep.mono hgm)) rfl ?_; clear H; rintro v17 G17 a w ⟨cs17, rfl, h17⟩ hm17 H; obtain ⟨cs, hcs⟩ : ∃ cs, cs = cs17 := ⟨_, rfl⟩; obtain ⟨pA, pn, pc, dA, dn, dc, yA, yn, yc, fA, fn, fc, hcs17, -⟩ := h17.row; rw [hcs17] at H; refine s_buildSlice un33run ty171run [_, _, _, _, _, _] [_, _, _, _, _, _] H wn rfl rfl rfl rfl rfl (by intro i q h; match i, h with | 0, h => exact h | n + 1, h => simp at h) rfl rfl ?_; clear H; intro b18 a w hb18 H; refine s_append (Li := [_, _]) (Lo := Lo) (news := cs17) un33run ty171run rfl rfl H wn rfl rfl hrw (by rw [hcs17]; rfl) (by rw [hcs17]; exact H.hp.ocells 0 rfl rfl) h17.one (by omega) (by omega) rfl ?_; clear H; intro v19 Lo19 a w hrw19 H; refine s_assign H wn rfl rfl ?_; clear H; intro a H; refine wl_nil ?_; refine hK7 _ _ ?_; clear hK7; refine c_region ?_; refine s_add _ H wn rfl rfl rfl (by omega) (by omega) rfl ?_; clear H; intro a H; refine s_move H wn rfl rfl ?_; clear H; intro a H; refine wl_nil ?_; refine loop_end ((k + 1, v19, xs ++ cs17, Lo19, G17)) (by exact (H.pickT (Pl := [_, _]) (Pl' := []) [] (by decide) rfl).sub ⟨rfl, rfl, rfl, rfl, rfl, trivial⟩) ?_ ?_
    · (try dsimp only); refine ⟨by omega, hrw19, ?_, fun b o h => hm17 b o (hgm b o h)⟩; rw [List.take_succ_eq_append_getElem (by simpa using hk2)]; exact (hcat.mono hm17).snoc (by simpa using h17) (by rw [hcs17]; rfl)
    first | omega | (dsimp only; omega)
  intro h11
  try have p11 := of_decide_eq_false h11
  refine c_exit ?_; refine hK3 _ _ ?_; clear hK3; refine c_seq (fun _ hK9 => ?_); obtain ⟨G', hm, hrep, H⟩ := H.giveRow (Li := []) hrw (rows := l.map RowD.dat) (by simp; omega) (by rw [List.take_of_length_le (by simp; omega)] at hcat; exact hcat); refine c_region ?_; refine s_move H wn rfl rfl ?_; clear H; intro a H; refine s_assign H wn rfl rfl ?_; clear H; intro a H; refine wl_nil ?_; refine hK9 _ _ ?_; clear hK9; refine c_ret ?_; refine (leave1 H Tryz.results148 (.cons (rv_tmp H rfl) .nil) ?_).1; exact H.hp.ret hrep
/-- The list of the copies of Cells. -/
theorem eachCell_spec (G : GH) (w0 : World) (hG : Hold G w0) (l : List CellD) (v fv : Value) (hv : RepV G (.sl 7 (l.map CellD.dat)) v) (hz : l.length ≤ 4294967296) (hf : ∀ x ∈ l, Copier fv w0 G x.dat) :
    Calls Tryz.prog 201 #[v, fv] w0 (Ret w0 G fun u G' => RepV G' (.sl 7 (l.map CellD.dat)) u) := by
  obtain ⟨A, c, rfl, hc1, hc2, hg⟩ := hv.slice
  have hml : 4294967297 ≤ maxLen := by decide
  rw [List.length_map] at *; refine enter (N := 22) (T := [(0, _), (1, _)]) (F := fun k => k < w0.heap.size) (L := []) Tryz.func201 rfl Tryz.ntmps201 rfl rfl hG (fun _ h => h) (fun _ h => by cases h) (fun _ h => by cases h) (fun _ h => by cases h) List.Pairwise.nil ?_; intro a H; refine c_seqR (fun _ hK1 => ?_); refine s_assign H wn rfl rfl ?_; clear H; intro a H; refine hK1 _ _ ?_; clear hK1; refine c_seqR (fun _ hK2 => ?_); refine s_assign H wn rfl rfl ?_; clear H; intro a H; refine hK2 _ _ ?_; clear hK2; refine c_seq (fun _ hK3 => ?_); refine c_seqR (fun _ hK4 => ?_); refine s_move H wn rfl rfl ?_; clear H; intro a H; refine s_len un169run H wn rfl rfl ?_; clear H; intro a H; refine s_move H wn rfl rfl ?_; clear H; intro a H; refine hK4 _ _ ?_; clear hK4; refine c_block ?_; skip; refine c_loopS (ι := Nat × Value × List Value × OL × GH) (Tc := [(1, _), (8, _), (9, _)]) (Lc := []) (fun (gh : Nat × Value × List Value × OL × GH) => [(5, gh.2.1), (10, vi gh.1)]) (fun (gh : Nat × Value × List Value × OL × GH) => [] ++ gh.2.2.2.1) (fun (gh : Nat × Value × List Value × OL × GH) => gh.2.2.2.2) (fun (gh : Nat × Value × List Value × OL × GH) => gh.1 ≤ l.length ∧ IsRow 174 7 gh.2.1 gh.1 gh.2.2.1 gh.2.2.2.1 ∧ RepCat gh.2.2.2.2 7 ((l.map CellD.dat).take gh.1) gh.2.2.1 ∧ (∀ b o, G b = some o → gh.2.2.2.2 b = some o)) (fun (gh : Nat × Value × List Value × OL × GH) => l.length - gh.1) ((0, .slice none 0 0, [], [], G)) (by exact (H).sub ⟨rfl, rfl, rfl, rfl, rfl, trivial⟩) ?_ ?_
  · exact ⟨by omega, IsRow.nil, by simpa using RepCat.nil, fun _ _ h => h⟩
  clear H; intro gh a w hI H; obtain ⟨k, v, xs, Lo, g⟩ := gh; dsimp only at hI H; obtain ⟨hk, hrw, hcat, hgm⟩ := hI; dsimp only [List.cons_append, List.nil_append, List.append_nil] at H; refine c_seqR (fun _ hK5 => ?_); refine s_cmp H wn rfl rfl rfl rfl ?_; clear H; intro a H; refine hK5 _ _ ?_; clear hK5; refine c_seq (fun _ hK6 => ?_); refine c_cond H rfl ?_ ?_
  · intro h11
    try have p11 := of_decide_eq_true h11
    have hk2 : k < l.length := by omega
    obtain ⟨b, o, cs, rfl, hcl, hrow, hrep⟩ := hg k l[k].dat (by simp [hk2]); obtain ⟨pA, pn, pc, dA, dn, dc, yA, yn, yc, fA, fn, fc, rfl, -⟩ := hrep.cell; replace hrow := fun j u hj => gcell_mono hgm (hrow j u hj); refine c_skip ?_; refine hK6 _ _ ?_; clear hK6; refine c_seq (fun _ hK7 => ?_); refine c_block ?_; refine c_seqR (fun _ hK8 => ?_); refine s_index un169run ty174run _ H wn rfl rfl rfl (by first | assumption | omega) rfl ?_; clear H; intro a H; refine s_loada ty174run (cs := [_, _, _, _, _, _, _]) H wn rfl rfl (fun j v hj => H.hp.gcell (hrow j v hj)) rfl ?_; clear H; intro a H; refine s_alloc ty174run H wn rfl ?_; clear H; intro b7 a w hb7 H; refine s_store ty174run 0 (vs := [_, _, _, _, _, _, _]) _ H wn rfl rfl rfl rfl rfl rfl rfl rfl ?_; clear H; intro w H; dsimp only [List.set, setRow] at H; refine hK8 _ _ ?_; clear hK8; refine c_region ?_; (iterate 2 refine s_move H wn rfl rfl ?_; clear H; intro a H); refine s_loada ty174run (cs := [_, _, _, _, _, _, _]) H wn rfl rfl (H.hp.ocells 0 rfl rfl) rfl ?_; clear H; intro a H; refine s_callv0 H wn rfl rfl (hf _ (List.getElem_mem hk2) _ _ _ hgm H.hp.ro (hrep.mono hgm)) rfl ?_; clear H; rintro v17 G17 a w ⟨cs17, rfl, h17⟩ hm17 H; obtain ⟨cs, hcs⟩ : ∃ cs, cs = cs17 := ⟨_, rfl⟩; obtain ⟨pA, pn, pc, dA, dn, dc, yA, yn, yc, fA, fn, fc, hcs17, -⟩ := h17.cell; rw [hcs17] at H; refine s_buildSlice un169run ty174run [_, _, _, _, _, _, _] [_, _, _, _, _, _, _] H wn rfl rfl rfl rfl rfl (by intro i q h; match i, h with | 0, h => exact h | n + 1, h => simp at h) rfl rfl ?_; clear H; intro b18 a w hb18 H; refine s_append (Li := [_, _]) (Lo := Lo) (news := cs17) un169run ty174run rfl rfl H wn rfl rfl hrw (by rw [hcs17]; rfl) (by rw [hcs17]; exact H.hp.ocells 0 rfl rfl) h17.one (by omega) (by omega) rfl ?_; clear H; intro v19 Lo19 a w hrw19 H; refine s_assign H wn rfl rfl ?_; clear H; intro a H; refine wl_nil ?_; refine hK7 _ _ ?_; clear hK7; refine c_region ?_; refine s_add _ H wn rfl rfl rfl (by omega) (by omega) rfl ?_; clear H; intro a H; refine s_move H wn rfl rfl ?_; clear H; intro a H; refine wl_nil ?_; refine loop_end ((k + 1, v19, xs ++ cs17, Lo19, G17)) (by exact (H.pickT (Pl := [_, _]) (Pl' := []) [] (by decide) rfl).sub ⟨rfl, rfl, rfl, rfl, rfl, trivial⟩) ?_ ?_
    · (try dsimp only); refine ⟨by omega, hrw19, ?_, fun b o h => hm17 b o (hgm b o h)⟩; rw [List.take_succ_eq_append_getElem (by simpa using hk2)]; exact (hcat.mono hm17).snoc (by simpa using h17) (by rw [hcs17]; rfl)
    first | omega | (dsimp only; omega)
  intro h11
  try have p11 := of_decide_eq_false h11
  refine c_exit ?_; refine hK3 _ _ ?_; clear hK3; refine c_seq (fun _ hK9 => ?_); obtain ⟨G', hm, hrep, H⟩ := H.giveRow (Li := []) hrw (rows := l.map CellD.dat) (by simp; omega) (by rw [List.take_of_length_le (by simp; omega)] at hcat; exact hcat); refine c_region ?_; refine s_move H wn rfl rfl ?_; clear H; intro a H; refine s_assign H wn rfl rfl ?_; clear H; intro a H; refine wl_nil ?_; refine hK9 _ _ ?_; clear hK9; refine c_ret ?_; refine (leave1 H Tryz.results201 (.cons (rv_tmp H rfl) .nil) ?_).1; exact H.hp.ret hrep
/-- Copies of flows that are smaller than n. -/
def CloneOk (n : Nat) : Prop := ∀ (G : GH) (w0 : World), Hold G w0 → ∀ (l : List ItemD) (v : Value), RepV G (.sl 11 (l.map ItemD.dat)) v → zItems l < n →
  Calls Tryz.prog 69 #[v] w0 (Ret w0 G fun u G' => RepV G' (.sl 11 (l.map ItemD.dat)) u)
theorem cloneCell_spec {n : Nat} (ih : CloneOk n) (hn : n ≤ 4294967296) (G : GH) (w0 : World) (hG : Hold G w0) (x : CellD) (cs : List Value) (hv : RepRow G x.dat cs) (hz : szR x.dat < n + 1) :
    Calls Tryz.prog 202 #[.agg cs.toArray] w0 (Ret w0 G fun u G' => ∃ cs', u = .agg cs'.toArray ∧ RepRow G' x.dat cs') := by
  have he := zCell_eq x; obtain ⟨pA, pn, pc, dA, dn, dc, yA, yn, yc, fA, fn, fc, rfl, hh, hf⟩ := hv.cell; refine enter (N := 12) (T := [(0, _)]) (F := fun k => k < w0.heap.size) (L := []) Tryz.func202 rfl Tryz.ntmps202 rfl rfl hG (fun _ h => h) (fun _ h => by cases h) (fun _ h => by cases h) (fun _ h => by cases h) List.Pairwise.nil ?_; intro a H; refine c_seqR (fun _ hK1 => ?_); refine s_box (cs := [_, _, _, _, _, _, _]) H wn rfl rfl rfl ?_; clear H; intro b1 a w hb1 H; refine s_alloc ty174run H wn rfl ?_; clear H; intro b2 a w hb2 H; refine hK1 _ _ ?_; clear hK1; refine c_seq (fun _ hK2 => ?_)
  have hprm1 : ∀ (ix_ : Nat) (v : Value) (G G' : GH), (∀ k o, G k = some o → G' k = some o) → (fun (ix_ : Nat) (v : Value) (G : GH) => match ix_ with | 0 => v = .pointer (some ⟨b1, 0, none⟩) | 1 => v = vi x.id | 2 => v = .pointer (some ⟨b1, 1, none⟩) | 3 => v = .agg #[.slice pA pn pc, vi x.head.marks.ins, vi x.head.marks.move, .slice dA dn dc, .slice yA yn yc] | 4 => ∃ p d l, v = .agg #[p, vi x.head.marks.ins, vi x.head.marks.move, d, l] ∧ HeadR G x.head p d l | 5 => v = .pointer (some ⟨b1, 6, none⟩) | 6 => v = .slice fA fn fc | 7 => RepV G (.sl 11 (x.flow.map ItemD.dat)) v | _ => True) ix_ v G → (fun (ix_ : Nat) (v : Value) (G : GH) => match ix_ with | 0 => v = .pointer (some ⟨b1, 0, none⟩) | 1 => v = vi x.id | 2 => v = .pointer (some ⟨b1, 1, none⟩) | 3 => v = .agg #[.slice pA pn pc, vi x.head.marks.ins, vi x.head.marks.move, .slice dA dn dc, .slice yA yn yc] | 4 => ∃ p d l, v = .agg #[p, vi x.head.marks.ins, vi x.head.marks.move, d, l] ∧ HeadR G x.head p d l | 5 => v = .pointer (some ⟨b1, 6, none⟩) | 6 => v = .slice fA fn fc | 7 => RepV G (.sl 11 (x.flow.map ItemD.dat)) v | _ => True) ix_ v G' := by
    intro ix_ v G G' hm h
    match ix_, h with
    | 0, h => exact h
    | 1, h => exact h
    | 2, h => exact h
    | 3, h => exact h
    | 4, h => exact let ⟨p, d, l, h1, h2⟩ := h; ⟨p, d, l, h1, h2.mono hm⟩
    | 5, h => exact h
    | 6, h => exact h
    | 7, h => exact RepV.mono hm h
    | 8, h => exact trivial
    | 9, h => exact trivial
    | _ + 10, h => exact trivial
  refine c_drawI (hmx) [[], [0], [], [2], [2, 3], [], [5], [2, 3, 4, 5, 6], [0, 1, 2, 3, 4, 5, 6, 7], [0, 1, 2, 3, 4, 5, 6, 7, 8]] [8, 9] (by kernel_rfl) (by kernel_rfl) (fun (ix_ : Nat) (v : Value) (G : GH) => match ix_ with | 0 => v = .pointer (some ⟨b1, 0, none⟩) | 1 => v = vi x.id | 2 => v = .pointer (some ⟨b1, 1, none⟩) | 3 => v = .agg #[.slice pA pn pc, vi x.head.marks.ins, vi x.head.marks.move, .slice dA dn dc, .slice yA yn yc] | 4 => ∃ p d l, v = .agg #[p, vi x.head.marks.ins, vi x.head.marks.move, d, l] ∧ HeadR G x.head p d l | 5 => v = .pointer (some ⟨b1, 6, none⟩) | 6 => v = .slice fA fn fc | 7 => RepV G (.sl 11 (x.flow.map ItemD.dat)) v | _ => True) hprm1 H ?_ ?_
  · clear H; refine (allI_cons ?_ (allI_cons ?_ (allI_cons ?_ (allI_cons ?_ (allI_cons ?_ (allI_cons ?_ (allI_cons ?_ (allI_cons ?_ (allI_cons ?_ (allI_cons ?_ allI_nil))))))))))
    · refine opI [] rfl trivial (by kernel_rfl) hprm1 rfl rfl ?_; intro Sd_ a w G1 hG HT H fin; refine s_field fd174_0run H wn rfl rfl ?_; clear H; intro a H; exact fin H (fun _ _ h => h) (rfl)
    · refine opI [(0, 3, _)] rfl ⟨fun _ _ h => h, trivial⟩ (by kernel_rfl) hprm1 rfl rfl ?_; intro Sd_ a w G1 hG HT H fin; refine s_load ty3run H wn rfl (H.hp.ocell 1 rfl rfl) rfl ?_; clear H; intro a H; exact fin H (fun _ _ h => h) (rfl)
    · refine opI [] rfl trivial (by kernel_rfl) hprm1 rfl rfl ?_; intro Sd_ a w G1 hG HT H fin; refine s_field fd174_1run H wn rfl rfl ?_; clear H; intro a H; exact fin H (fun _ _ h => h) (rfl)
    · refine opI [(2, 5, _)] rfl ⟨fun _ _ h => h, trivial⟩ (by kernel_rfl) hprm1 rfl rfl ?_; intro Sd_ a w G1 hG HT H fin; refine s_loada ty31run (cs := [_, _, _, _, _]) H wn rfl rfl (H.hp.ocells 1 rfl rfl) rfl ?_; clear H; intro a H; exact fin H (fun _ _ h => h) (rfl)
    · refine opI [(3, 6, _)] rfl ⟨fun _ _ h => h, trivial⟩ (by kernel_rfl) hprm1 rfl rfl ?_; intro Sd_ a w G1 hG HT H fin; refine s_call en70run H wn rfl (cloneHead_spec _ _ H.hp.ro x.head _ _ _ _ _ _ _ _ _ (hh.mono hG) (by omega)) rfl ?_; clear H; rintro v7 G7 a w hp7 hGm7 H; exact fin H hGm7 (hp7)
    · refine opI [] rfl trivial (by kernel_rfl) hprm1 rfl rfl ?_; intro Sd_ a w G1 hG HT H fin; refine s_field fd174_2run H wn rfl rfl ?_; clear H; intro a H; exact fin H (fun _ _ h => h) (rfl)
    · refine opI [(5, 8, _)] rfl ⟨fun _ _ h => h, trivial⟩ (by kernel_rfl) hprm1 rfl rfl ?_; intro Sd_ a w G1 hG HT H fin; refine s_load ty32run H wn rfl (H.hp.ocell 1 rfl rfl) rfl ?_; clear H; intro a H; exact fin H (fun _ _ h => h) (rfl)
    · refine opI [(6, 9, _)] rfl ⟨fun _ _ h => h, trivial⟩ (by kernel_rfl) hprm1 rfl rfl ?_; intro Sd_ a w G1 hG HT H fin; refine s_call en69run H wn rfl (ih _ _ H.hp.ro x.flow _ (hf.mono hG) (by omega)) rfl ?_; clear H; rintro v10 G10 a w hp10 hGm10 H; exact fin H hGm10 (hp10)
    · intro _ _ _ _ hB; exact absurd hB (by decide)
    intro _ _ _ _ hB; exact absurd hB (by decide)
  clear H; intro a w G hGm1 H hv; obtain ⟨u4, hu4, hp4⟩ := hv 1 4 (by decide) rfl; obtain rfl : u4 = vi x.id := hp4; have H := H.addS hu4; obtain ⟨u7, hu7, hp7⟩ := hv 4 7 (by decide) rfl; (try dsimp only at hp7); obtain ⟨p7, d7, l7, rfl, hh7⟩ := hp7; obtain ⟨a1, a2, a3, rfl⟩ := hh7.props.form; obtain ⟨a4, a5, a6, rfl⟩ := hh7.dels.form; obtain ⟨a7, a8, a9, rfl⟩ := hh7.layers.form; have H := H.addS hu7; obtain ⟨u10, hu10, hp10⟩ := hv 7 10 (by decide) rfl; (try dsimp only at hp10); obtain ⟨A10, n10, c10, rfl⟩ := hp10.form; have H := H.addS hu10; clear hv; refine s_build sr174run [_, _, _, _, _, _, _] H wn rfl rfl rfl rfl ?_; clear H; intro a H; refine s_store ty174run 0 (vs := [_, _, _, _, _, _, _]) _ H wn rfl rfl rfl rfl rfl rfl rfl rfl ?_; clear H; intro w H; dsimp only [List.set, setRow] at H; refine wl_nil ⟨rfl, ?_⟩; refine hK2 _ _ ?_; clear hK2; refine c_ret ?_; refine (leave1 H Tryz.results202 (.cons (rv_cella ty174run (cs := [_, _, _, _, _, _, _]) H rfl rfl (H.hp.ocells 0 rfl rfl)) .nil) ?_).1; exact H.hp.ret ⟨_, rfl, RepRow.mkCell hh7 hp10⟩
theorem cloneCell_copier {n : Nat} (ih : CloneOk n) (hn : n ≤ 4294967296) {G : GH} {w0 : World} (x : CellD) (hz : szR x.dat < n + 1) : Copier (.func (.func 202) #[] #[]) w0 G x.dat := by
  intro G1 w1 cs hm1 hG1 hr; have h := cloneCell_spec ih hn _ _ hG1 x cs hr hz; have h2 := callV_func (P := Tryz.prog) (caps := []) (args := [.agg cs.toArray]) en202run h; exact h2
theorem cloneRow_spec {n : Nat} (ih : CloneOk n) (hn : n ≤ 4294967296) (G : GH) (w0 : World) (hG : Hold G w0) (x : RowD) (cs : List Value) (hv : RepRow G x.dat cs) (hz : szR x.dat < n + 1) :
    Calls Tryz.prog 149 #[.agg cs.toArray] w0 (Ret w0 G fun u G' => ∃ cs', u = .agg cs'.toArray ∧ RepRow G' x.dat cs') := by
  have he := zRow_eq x; have hl := zCells_length x.cells; obtain ⟨pA, pn, pc, dA, dn, dc, yA, yn, yc, fA, fn, fc, rfl, hh, hf⟩ := hv.row; refine enter (N := 10) (T := [(0, _)]) (F := fun k => k < w0.heap.size) (L := []) Tryz.func149 rfl Tryz.ntmps149 rfl rfl hG (fun _ h => h) (fun _ h => by cases h) (fun _ h => by cases h) (fun _ h => by cases h) List.Pairwise.nil ?_; intro a H; refine c_seqR (fun _ hK1 => ?_); refine s_box (cs := [_, _, _, _, _, _]) H wn rfl rfl rfl ?_; clear H; intro b1 a w hb1 H; refine s_alloc ty171run H wn rfl ?_; clear H; intro b2 a w hb2 H; refine hK1 _ _ ?_; clear hK1; refine c_seq (fun _ hK2 => ?_)
  have hprm1 : ∀ (ix_ : Nat) (v : Value) (G G' : GH), (∀ k o, G k = some o → G' k = some o) → (fun (ix_ : Nat) (v : Value) (G : GH) => match ix_ with | 0 => v = .pointer (some ⟨b1, 0, none⟩) | 1 => v = .agg #[.slice pA pn pc, vi x.head.marks.ins, vi x.head.marks.move, .slice dA dn dc, .slice yA yn yc] | 2 => ∃ p d l, v = .agg #[p, vi x.head.marks.ins, vi x.head.marks.move, d, l] ∧ HeadR G x.head p d l | 3 => v = .pointer (some ⟨b1, 5, none⟩) | 4 => v = .slice fA fn fc | 5 => RepV G (.sl 7 (x.cells.map CellD.dat)) v | _ => True) ix_ v G → (fun (ix_ : Nat) (v : Value) (G : GH) => match ix_ with | 0 => v = .pointer (some ⟨b1, 0, none⟩) | 1 => v = .agg #[.slice pA pn pc, vi x.head.marks.ins, vi x.head.marks.move, .slice dA dn dc, .slice yA yn yc] | 2 => ∃ p d l, v = .agg #[p, vi x.head.marks.ins, vi x.head.marks.move, d, l] ∧ HeadR G x.head p d l | 3 => v = .pointer (some ⟨b1, 5, none⟩) | 4 => v = .slice fA fn fc | 5 => RepV G (.sl 7 (x.cells.map CellD.dat)) v | _ => True) ix_ v G' := by
    intro ix_ v G G' hm h
    match ix_, h with
    | 0, h => exact h
    | 1, h => exact h
    | 2, h => exact let ⟨p, d, l, h1, h2⟩ := h; ⟨p, d, l, h1, h2.mono hm⟩
    | 3, h => exact h
    | 4, h => exact h
    | 5, h => exact RepV.mono hm h
    | 6, h => exact trivial
    | 7, h => exact trivial
    | _ + 8, h => exact trivial
  refine c_drawI (hmx) [[], [0], [0, 1], [], [3], [0, 1, 2, 3, 4], [0, 1, 2, 3, 4, 5], [0, 1, 2, 3, 4, 5, 6]] [6, 7] (by kernel_rfl) (by kernel_rfl) (fun (ix_ : Nat) (v : Value) (G : GH) => match ix_ with | 0 => v = .pointer (some ⟨b1, 0, none⟩) | 1 => v = .agg #[.slice pA pn pc, vi x.head.marks.ins, vi x.head.marks.move, .slice dA dn dc, .slice yA yn yc] | 2 => ∃ p d l, v = .agg #[p, vi x.head.marks.ins, vi x.head.marks.move, d, l] ∧ HeadR G x.head p d l | 3 => v = .pointer (some ⟨b1, 5, none⟩) | 4 => v = .slice fA fn fc | 5 => RepV G (.sl 7 (x.cells.map CellD.dat)) v | _ => True) hprm1 H ?_ ?_
  · clear H; refine (allI_cons ?_ (allI_cons ?_ (allI_cons ?_ (allI_cons ?_ (allI_cons ?_ (allI_cons ?_ (allI_cons ?_ (allI_cons ?_ allI_nil))))))))
    · refine opI [] rfl trivial (by kernel_rfl) hprm1 rfl rfl ?_; intro Sd_ a w G1 hG HT H fin; refine s_field fd171_0run H wn rfl rfl ?_; clear H; intro a H; exact fin H (fun _ _ h => h) (rfl)
    · refine opI [(0, 3, _)] rfl ⟨fun _ _ h => h, trivial⟩ (by kernel_rfl) hprm1 rfl rfl ?_; intro Sd_ a w G1 hG HT H fin; refine s_loada ty31run (cs := [_, _, _, _, _]) H wn rfl rfl (H.hp.ocells 1 rfl rfl) rfl ?_; clear H; intro a H; exact fin H (fun _ _ h => h) (rfl)
    · refine opI [(1, 4, _)] rfl ⟨fun _ _ h => h, trivial⟩ (by kernel_rfl) hprm1 rfl rfl ?_; intro Sd_ a w G1 hG HT H fin; refine s_call en70run H wn rfl (cloneHead_spec _ _ H.hp.ro x.head _ _ _ _ _ _ _ _ _ (hh.mono hG) (by omega)) rfl ?_; clear H; rintro v5 G5 a w hp5 hGm5 H; exact fin H hGm5 (hp5)
    · refine opI [] rfl trivial (by kernel_rfl) hprm1 rfl rfl ?_; intro Sd_ a w G1 hG HT H fin; refine s_field fd171_1run H wn rfl rfl ?_; clear H; intro a H; exact fin H (fun _ _ h => h) (rfl)
    · refine opI [(3, 6, _)] rfl ⟨fun _ _ h => h, trivial⟩ (by kernel_rfl) hprm1 rfl rfl ?_; intro Sd_ a w G1 hG HT H fin; refine s_load ty169run H wn rfl (H.hp.ocell 1 rfl rfl) rfl ?_; clear H; intro a H; exact fin H (fun _ _ h => h) (rfl)
    · refine opI [(4, 7, _)] rfl ⟨fun _ _ h => h, trivial⟩ (by kernel_rfl) hprm1 rfl rfl ?_; intro Sd_ a w G1 hG HT H fin; refine s_call en201run H wn rfl (eachCell_spec _ _ H.hp.ro x.cells _ _ (hf.mono hG) (by omega) (fun y hy => cloneCell_copier ih hn y (by have := zCells_mem hy; omega))) rfl ?_; clear H; rintro v8 G8 a w hp8 hGm8 H; exact fin H hGm8 (hp8)
    · intro _ _ _ _ hB; exact absurd hB (by decide)
    intro _ _ _ _ hB; exact absurd hB (by decide)
  clear H; intro a w G hGm1 H hv; obtain ⟨u5, hu5, hp5⟩ := hv 2 5 (by decide) rfl; (try dsimp only at hp5); obtain ⟨p5, d5, l5, rfl, hh5⟩ := hp5; obtain ⟨a1, a2, a3, rfl⟩ := hh5.props.form; obtain ⟨a4, a5, a6, rfl⟩ := hh5.dels.form; obtain ⟨a7, a8, a9, rfl⟩ := hh5.layers.form; have H := H.addS hu5; obtain ⟨u8, hu8, hp8⟩ := hv 5 8 (by decide) rfl; (try dsimp only at hp8); obtain ⟨A8, n8, c8, rfl⟩ := hp8.form; have H := H.addS hu8; clear hv; refine s_build sr171run [_, _, _, _, _, _] H wn rfl rfl rfl rfl ?_; clear H; intro a H; refine s_store ty171run 0 (vs := [_, _, _, _, _, _]) _ H wn rfl rfl rfl rfl rfl rfl rfl rfl ?_; clear H; intro w H; dsimp only [List.set, setRow] at H; refine wl_nil ⟨rfl, ?_⟩; refine hK2 _ _ ?_; clear hK2; refine c_ret ?_; refine (leave1 H Tryz.results149 (.cons (rv_cella ty171run (cs := [_, _, _, _, _, _]) H rfl rfl (H.hp.ocells 0 rfl rfl)) .nil) ?_).1; exact H.hp.ret ⟨_, rfl, RepRow.mkRow hh5 hp8⟩
theorem cloneRow_copier {n : Nat} (ih : CloneOk n) (hn : n ≤ 4294967296) {G : GH} {w0 : World} (x : RowD) (hz : szR x.dat < n + 1) : Copier (.func (.func 149) #[] #[]) w0 G x.dat := by
  intro G1 w1 cs hm1 hG1 hr; have h := cloneRow_spec ih hn _ _ hG1 x cs hr hz; have h2 := callV_func (P := Tryz.prog) (caps := []) (args := [.agg cs.toArray]) en149run h; exact h2
theorem clone1_spec {n : Nat} (ih : CloneOk n) (hn : n ≤ 4294967296) (G : GH) (w0 : World) (hG : Hold G w0) (x : ItemD) (cs : List Value) (hv : RepRow G x.dat cs) (hz : szR x.dat < n + 1) :
    Calls Tryz.prog 147 #[.agg cs.toArray] w0 (Ret w0 G fun u G' => ∃ cs', u = .agg cs'.toArray ∧ RepRow G' x.dat cs') := by
  have he := zItem_eq x; have hl := zRows_length x.rows; obtain ⟨pA, pn, pc, dA, dn, dc, yA, yn, yc, fA, fn, fc, rA, rn, rc, rfl, hh, hf, hr⟩ := hv.item; refine enter (N := 16) (T := [(0, _)]) (F := fun k => k < w0.heap.size) (L := []) Tryz.func147 rfl Tryz.ntmps147 rfl rfl hG (fun _ h => h) (fun _ h => by cases h) (fun _ h => by cases h) (fun _ h => by cases h) List.Pairwise.nil ?_; intro a H; refine c_seqR (fun _ hK1 => ?_); refine s_box (cs := [_, _, _, _, _, _, _, _, _, _, _]) H wn rfl rfl rfl ?_; clear H; intro b1 a w hb1 H; refine s_alloc ty35run H wn rfl ?_; clear H; intro b2 a w hb2 H; refine hK1 _ _ ?_; clear hK1; refine c_seq (fun _ hK2 => ?_)
  have hprm1 : ∀ (ix_ : Nat) (v : Value) (G G' : GH), (∀ k o, G k = some o → G' k = some o) → (fun (ix_ : Nat) (v : Value) (G : GH) => match ix_ with | 0 => v = .pointer (some ⟨b1, 4, none⟩) | 1 => v = .agg #[.slice pA pn pc, vi x.head.marks.ins, vi x.head.marks.move, .slice dA dn dc, .slice yA yn yc] | 2 => ∃ p d l, v = .agg #[p, vi x.head.marks.ins, vi x.head.marks.move, d, l] ∧ HeadR G x.head p d l | 3 => v = .pointer (some ⟨b1, 9, none⟩) | 4 => v = .slice fA fn fc | 5 => RepV G (.sl 11 (x.flow.map ItemD.dat)) v | 6 => v = .pointer (some ⟨b1, 10, none⟩) | 7 => v = .slice rA rn rc | 8 => RepV G (.sl 6 (x.rows.map RowD.dat)) v | 9 => v = .pointer (some ⟨b1, 4, none⟩) | _ => True) ix_ v G → (fun (ix_ : Nat) (v : Value) (G : GH) => match ix_ with | 0 => v = .pointer (some ⟨b1, 4, none⟩) | 1 => v = .agg #[.slice pA pn pc, vi x.head.marks.ins, vi x.head.marks.move, .slice dA dn dc, .slice yA yn yc] | 2 => ∃ p d l, v = .agg #[p, vi x.head.marks.ins, vi x.head.marks.move, d, l] ∧ HeadR G x.head p d l | 3 => v = .pointer (some ⟨b1, 9, none⟩) | 4 => v = .slice fA fn fc | 5 => RepV G (.sl 11 (x.flow.map ItemD.dat)) v | 6 => v = .pointer (some ⟨b1, 10, none⟩) | 7 => v = .slice rA rn rc | 8 => RepV G (.sl 6 (x.rows.map RowD.dat)) v | 9 => v = .pointer (some ⟨b1, 4, none⟩) | _ => True) ix_ v G' := by
    intro ix_ v G G' hm h
    match ix_, h with
    | 0, h => exact h
    | 1, h => exact h
    | 2, h => exact let ⟨p, d, l, h1, h2⟩ := h; ⟨p, d, l, h1, h2.mono hm⟩
    | 3, h => exact h
    | 4, h => exact h
    | 5, h => exact RepV.mono hm h
    | 6, h => exact h
    | 7, h => exact h
    | 8, h => exact RepV.mono hm h
    | 9, h => exact h
    | 10, h => exact trivial
    | 11, h => exact trivial
    | 12, h => exact trivial
    | 13, h => exact trivial
    | 14, h => exact trivial
    | _ + 15, h => exact trivial
  refine c_drawI (hmx) [[], [0], [0, 1], [], [3], [0, 1, 2, 3, 4], [], [6], [0, 1, 2, 3, 4, 5, 6, 7], [0, 1, 2, 3, 4, 6, 7], [0, 1, 2, 3, 4, 5, 6, 7, 8, 9], [0, 1, 2, 3, 4, 5, 6, 7, 8, 9, 10], [0, 1, 2, 3, 4, 5, 6, 7, 8, 9, 10, 11], [0, 1, 2, 3, 4, 5, 6, 7, 8, 9, 10, 11, 12], [0, 1, 2, 3, 4, 5, 6, 7, 8, 9, 10, 11, 12, 13]] [10, 11, 12, 13, 14] (by kernel_rfl) (by kernel_rfl) (fun (ix_ : Nat) (v : Value) (G : GH) => match ix_ with | 0 => v = .pointer (some ⟨b1, 4, none⟩) | 1 => v = .agg #[.slice pA pn pc, vi x.head.marks.ins, vi x.head.marks.move, .slice dA dn dc, .slice yA yn yc] | 2 => ∃ p d l, v = .agg #[p, vi x.head.marks.ins, vi x.head.marks.move, d, l] ∧ HeadR G x.head p d l | 3 => v = .pointer (some ⟨b1, 9, none⟩) | 4 => v = .slice fA fn fc | 5 => RepV G (.sl 11 (x.flow.map ItemD.dat)) v | 6 => v = .pointer (some ⟨b1, 10, none⟩) | 7 => v = .slice rA rn rc | 8 => RepV G (.sl 6 (x.rows.map RowD.dat)) v | 9 => v = .pointer (some ⟨b1, 4, none⟩) | _ => True) hprm1 H ?_ ?_
  · clear H; refine (allI_cons ?_ (allI_cons ?_ (allI_cons ?_ (allI_cons ?_ (allI_cons ?_ (allI_cons ?_ (allI_cons ?_ (allI_cons ?_ (allI_cons ?_ (allI_cons ?_ (allI_cons ?_ (allI_cons ?_ (allI_cons ?_ (allI_cons ?_ (allI_cons ?_ allI_nil)))))))))))))))
    · refine opI [] rfl trivial (by kernel_rfl) hprm1 rfl rfl ?_; intro Sd_ a w G1 hG HT H fin; refine s_field fd35_4run H wn rfl rfl ?_; clear H; intro a H; exact fin H (fun _ _ h => h) (rfl)
    · refine opI [(0, 3, _)] rfl ⟨fun _ _ h => h, trivial⟩ (by kernel_rfl) hprm1 rfl rfl ?_; intro Sd_ a w G1 hG HT H fin; refine s_loada ty31run (cs := [_, _, _, _, _]) H wn rfl rfl (H.hp.ocells 1 rfl rfl) rfl ?_; clear H; intro a H; exact fin H (fun _ _ h => h) (rfl)
    · refine opI [(1, 4, _)] rfl ⟨fun _ _ h => h, trivial⟩ (by kernel_rfl) hprm1 rfl rfl ?_; intro Sd_ a w G1 hG HT H fin; refine s_call en70run H wn rfl (cloneHead_spec _ _ H.hp.ro x.head _ _ _ _ _ _ _ _ _ (hh.mono hG) (by omega)) rfl ?_; clear H; rintro v5 G5 a w hp5 hGm5 H; exact fin H hGm5 (hp5)
    · refine opI [] rfl trivial (by kernel_rfl) hprm1 rfl rfl ?_; intro Sd_ a w G1 hG HT H fin; refine s_field fd35_5run H wn rfl rfl ?_; clear H; intro a H; exact fin H (fun _ _ h => h) (rfl)
    · refine opI [(3, 6, _)] rfl ⟨fun _ _ h => h, trivial⟩ (by kernel_rfl) hprm1 rfl rfl ?_; intro Sd_ a w G1 hG HT H fin; refine s_load ty32run H wn rfl (H.hp.ocell 1 rfl rfl) rfl ?_; clear H; intro a H; exact fin H (fun _ _ h => h) (rfl)
    · refine opI [(4, 7, _)] rfl ⟨fun _ _ h => h, trivial⟩ (by kernel_rfl) hprm1 rfl rfl ?_; intro Sd_ a w G1 hG HT H fin; refine s_call en69run H wn rfl (ih _ _ H.hp.ro x.flow _ (hf.mono hG) (by omega)) rfl ?_; clear H; rintro v8 G8 a w hp8 hGm8 H; exact fin H hGm8 (hp8)
    · refine opI [] rfl trivial (by kernel_rfl) hprm1 rfl rfl ?_; intro Sd_ a w G1 hG HT H fin; refine s_field fd35_6run H wn rfl rfl ?_; clear H; intro a H; exact fin H (fun _ _ h => h) (rfl)
    · refine opI [(6, 9, _)] rfl ⟨fun _ _ h => h, trivial⟩ (by kernel_rfl) hprm1 rfl rfl ?_; intro Sd_ a w G1 hG HT H fin; refine s_load ty33run H wn rfl (H.hp.ocell 1 rfl rfl) rfl ?_; clear H; intro a H; exact fin H (fun _ _ h => h) (rfl)
    · refine opI [(7, 10, _)] rfl ⟨fun _ _ h => h, trivial⟩ (by kernel_rfl) hprm1 rfl rfl ?_; intro Sd_ a w G1 hG HT H fin; refine s_call en148run H wn rfl (eachRow_spec _ _ H.hp.ro x.rows _ _ (hr.mono hG) (by omega) (fun y hy => cloneRow_copier ih hn y (by have := zRows_mem hy; omega))) rfl ?_; clear H; rintro v11 G11 a w hp11 hGm11 H; exact fin H hGm11 (hp11)
    · refine opI [] rfl trivial (by kernel_rfl) hprm1 rfl rfl ?_; intro Sd_ a w G1 hG HT H fin; refine s_field fd35_4run H wn rfl rfl ?_; clear H; intro a H; exact fin H (fun _ _ h => h) (rfl)
    · intro _ _ _ _ hB; exact absurd hB (by decide)
    · intro _ _ _ _ hB; exact absurd hB (by decide)
    · intro _ _ _ _ hB; exact absurd hB (by decide)
    · intro _ _ _ _ hB; exact absurd hB (by decide)
    intro _ _ _ _ hB; exact absurd hB (by decide)
  clear H; intro a w G hGm1 H hv; obtain ⟨u5, hu5, hp5⟩ := hv 2 5 (by decide) rfl; (try dsimp only at hp5); obtain ⟨p5, d5, l5, rfl, hh5⟩ := hp5; obtain ⟨a1, a2, a3, rfl⟩ := hh5.props.form; obtain ⟨a4, a5, a6, rfl⟩ := hh5.dels.form; obtain ⟨a7, a8, a9, rfl⟩ := hh5.layers.form; have H := H.addS hu5; obtain ⟨u8, hu8, hp8⟩ := hv 5 8 (by decide) rfl; (try dsimp only at hp8); obtain ⟨A8, n8, c8, rfl⟩ := hp8.form; have H := H.addS hu8; obtain ⟨u11, hu11, hp11⟩ := hv 8 11 (by decide) rfl; (try dsimp only at hp11); obtain ⟨A11, n11, c11, rfl⟩ := hp11.form; have H := H.addS hu11; obtain ⟨u12, hu12, hp12⟩ := hv 9 12 (by decide) rfl; obtain rfl : u12 = .pointer (some ⟨b1, 4, none⟩) := hp12; have H := H.addS hu12; clear hv; refine s_store ty31run 1 (vs := [_, _, _, _, _]) _ H wn rfl rfl rfl rfl rfl rfl rfl rfl ?_; clear H; intro w H; dsimp only [List.set, setRow] at H; refine s_field fd35_5run H wn rfl rfl ?_; clear H; intro a H; refine s_store ty32run 1 (vs := [_]) _ H wn rfl rfl rfl rfl rfl rfl rfl rfl ?_; clear H; intro w H; dsimp only [List.set, setRow] at H; refine s_field fd35_6run H wn rfl rfl ?_; clear H; intro a H; refine s_store ty33run 1 (vs := [_]) _ H wn rfl rfl rfl rfl rfl rfl rfl rfl ?_; clear H; intro w H; dsimp only [List.set, setRow] at H; refine wl_nil ⟨rfl, ?_⟩; refine hK2 _ _ ?_; clear hK2; refine c_seqR (fun _ hK3 => ?_); refine s_loada ty35run (cs := [_, _, _, _, _, _, _, _, _, _, _]) H wn rfl rfl (H.hp.ocells 1 rfl rfl) rfl ?_; clear H; intro a H; refine s_store ty35run 0 (vs := [_, _, _, _, _, _, _, _, _, _, _]) _ H wn rfl rfl rfl rfl rfl rfl rfl rfl ?_; clear H; intro w H; dsimp only [List.set, setRow] at H; refine hK3 _ _ ?_; clear hK3; refine c_ret ?_; refine (leave1 H Tryz.results147 (.cons (rv_cella ty35run (cs := [_, _, _, _, _, _, _, _, _, _, _]) H rfl rfl (H.hp.ocells 0 rfl rfl)) .nil) ?_).1; exact H.hp.ret ⟨_, rfl, RepRow.mkItem hh5 hp8 hp11⟩
theorem clone1_copier {n : Nat} (ih : CloneOk n) (hn : n ≤ 4294967296) {G : GH} {w0 : World} (x : ItemD) (hz : szR x.dat < n + 1) : Copier (.func (.func 147) #[] #[]) w0 G x.dat := by
  intro G1 w1 cs hm1 hG1 hr; have h := clone1_spec ih hn _ _ hG1 x cs hr hz; have h2 := callV_func (P := Tryz.prog) (caps := []) (args := [.agg cs.toArray]) en147run h; exact h2
theorem clone_ok : ∀ n : Nat, n ≤ 4294967297 → CloneOk n
  | 0, _ => fun _ _ _ _ _ _ h => absurd h (by omega)
  | n + 1, hn => by
    intro G w0 hG l v hv hz; have ih := clone_ok n (by omega); have hl := zItems_length l; refine enter (N := 5) (T := [(0, _)]) (F := fun k => k < w0.heap.size) (L := []) Tryz.func69 rfl Tryz.ntmps69 rfl rfl hG (fun _ h => h) (fun _ h => by cases h) (fun _ h => by cases h) (fun _ h => by cases h) List.Pairwise.nil ?_; intro a H; refine c_seqR (fun _ hK1 => ?_); refine s_assign H wn rfl rfl ?_; clear H; intro a H; refine hK1 _ _ ?_; clear hK1; refine c_seqR (fun _ hK2 => ?_); refine s_move H wn rfl rfl ?_; clear H; intro a H; refine s_call en146run H wn rfl (eachItem_spec _ _ H.hp.ro l _ _ hv (by omega) (fun y hy => clone1_copier ih (by omega) y (by have := zItems_mem hy; omega))) rfl ?_; clear H; rintro v4 G4 a w hp4 hGm4 H; refine s_assign H wn rfl rfl ?_; clear H; intro a H; refine hK2 _ _ ?_; clear hK2; refine c_ret ?_; refine (leave1 H Tryz.results69 (.cons (rv_tmp H rfl) .nil) ?_).1; exact H.hp.ret hp4
/-- A copy of a flow. -/
theorem clone_spec (G : GH) (w0 : World) (hG : Hold G w0) (l : List ItemD) (v : Value) (hv : RepV G (.sl 11 (l.map ItemD.dat)) v) (hz : zItems l ≤ 4294967296) :
    Calls Tryz.prog 69 #[v] w0 (Ret w0 G fun u G' => RepV G' (.sl 11 (l.map ItemD.dat)) u) := clone_ok 4294967297 (by omega) G w0 hG l v hv (by omega)
end
section
open Go.RowKit
section
variable {P : Program} {N : Nat} {D : List Deferred} {w0 w w' : World} {F : Nat → Prop} {G0 G G' : GH} {L L' Li Lo : OL} {T : List (Nat × Value)} {a a' : Act} {Q : Exit → Act → World → Prop}
theorem St.cast (h : St N D w0 F G0 G L T a w) (e : L = L') : St N D w0 F G0 G L' T a w := e ▸ h
theorem St.assoc {A B C : OL} (h : St N D w0 F G0 G ((A ++ B) ++ C) T a w) : St N D w0 F G0 G (A ++ (B ++ C)) T a w := h.cast (List.append_assoc _ _ _)
theorem St.un {A B C : OL} (h : St N D w0 F G0 G (A ++ (B ++ C)) T a w) : St N D w0 F G0 G ((A ++ B) ++ C) T a w := h.cast (List.append_assoc _ _ _).symm
theorem St.nilT {A B : OL} (h : St N D w0 F G0 G (A ++ B) T a w) : St N D w0 F G0 G (A ++ (B ++ [])) T a w := h.cast (by rw [List.append_nil])
/-- A range over a function whose state is told by ghosts. -/
theorem c_rangeJ {ι κ : Type} {Lc : OL} {gop : Operand} {ps : List Nat} {assign body : Code} {gf : FuncId} {caps : List Value} {xs : List AP} {Gi : GH}
    (Lv : Nat → ι → OL) (Lt : Nat → ι → OL) (inv : Nat → ι → GH → Prop) (cx : κ → Code) (Lx Lxt : κ → OL) (invx : κ → GH → Prop) (i0 : ι)
    (H : St N D w0 F G0 G (Lc ++ Lv 0 i0 ++ Lt 0 i0) T a w) (hg : ev T gop = some (.func (.func gf) #[] caps.toArray)) (en : ∀ args w, (callFunc gf args).run P w = .ok (.enter gf args) w) (hit : Iter P Gi (.func (.func gf) #[] caps.toArray) xs) (hGi : ∀ b o, Gi b = some o → G b = some o)
    (hps : ps.all (Nat.blt · N) = true) (hlen : ∀ k args g, AtAP xs k args g → args.length = ps.length) (hinv : ∀ k i (G G' : GH), (∀ b o, G b = some o → G' b = some o) → inv k i G → inv k i G') (hinvx : ∀ x (G G' : GH), (∀ b o, G b = some o → G' b = some o) → invx x G → invx x G') (h0 : inv 0 i0 G)
    (round : ∀ (l : Nat) (rdy bsy : Obj) (bk : OL) (k : Nat) (args : List Value) (i : ι) (G1 : GH) (w1 : World) (F1 : Nat → Prop) (B1 : Code → Exit → Act → World → Prop) (a1 : Act), AtAP xs k args G1 → (∀ b o, G b = some o → G1 b = some o) → inv k i G1 →
      (∀ T' G2 L2 a2 w2 c, St N [] w1 F1 G1 G2 ((l, rdy) :: L2) T' a2 w2 → (∀ w3, St N [] w1 F1 G1 G2 ((l, bsy) :: L2) T' a2 w3 → WP (some l) P c (B1 c) a2 w3) → Exit.then (fun a2 w2 => ∃ w3, (Instr.beginRound l).run P w2 = .ok () w3 ∧ c.wpIn (FW (some l)) 0 P (B1 c) a2 w3) (fun _ _ _ => False) .normal a2 w2) →
      (∀ i' T' G2 a2 w2 c, St N [] w1 F1 G1 G2 ((l, bsy) :: (Lc ++ Lv (k + 1) i' ++ (bk ++ Lt (k + 1) i'))) T' a2 w2 → inv (k + 1) i' G2 → B1 c .normal a2 w2) →
      (∀ x T' G2 a2 w2 c, St N [] w1 F1 G1 G2 ((l, bsy) :: (Lc ++ Lx x ++ (bk ++ Lxt x))) T' a2 w2 → invx x G2 → (cx x = .ret → B1 c .ret a2 w2) ∧ ∀ n, cx x = .exit n → B1 c (.exit n) a2 w2) →
      St N [] w1 F1 G1 G1 ((l, rdy) :: (Lc ++ Lv k i ++ (bk ++ Lt k i))) (asg ps args T) a1 w1 →
      WP (some l) P assign (Exit.then (fun a2 w2 => ∃ w3, (Instr.beginRound l).run P w2 = .ok () w3 ∧ body.wpIn (FW (some l)) 0 P (B1 body) a2 w3) (fun _ _ _ => False)) a1 w1)
    (hdone : ∀ Dk i G1 a1 w1, (∀ b o, G b = some o → G1 b = some o) → inv xs.length i G1 → St N ({ target := .collected Dk, args := #[] } :: D) w0 F G0 G1 ((Dk, .deferred (some [])) :: (Lc ++ Lv xs.length i ++ Lt xs.length i)) T a1 w1 → Q .normal a1 w1)
    (hstop : ∀ Dk x G1 a1 w1, (∀ b o, G b = some o → G1 b = some o) → invx x G1 → St N ({ target := .collected Dk, args := #[] } :: D) w0 F G0 G1 ((Dk, .deferred (some [])) :: (Lc ++ Lx x ++ Lxt x)) T a1 w1 → WP none P (cx x) Q a1 w1) :
    WP none P (.rangeFunc gop ps.toArray assign body) Q a w := by
  refine c_range (J := fun k g L => ∃ i, L = Lc ++ Lv k i ++ Lt k i ∧ inv k i g) (Jx := fun c g L => ∃ x, c = cx x ∧ L = Lc ++ Lx x ++ Lxt x ∧ invx x g) H hg en hit hGi hps hlen (fun k G G' L hm ⟨i, e, h⟩ => ⟨i, e, hinv k i G G' hm h⟩) (fun c G G' L hm ⟨x, e1, e2, h⟩ => ⟨x, e1, e2, hinvx x G G' hm h⟩) ⟨i0, rfl, h0⟩ ?_ ?_ ?_
  · rintro l q bk k args G1 L1 w1 a1 hk hm ⟨i, rfl, hi⟩ H1
    have pm : ∀ A B : OL, (bk ++ (A ++ B)).Perm (A ++ (bk ++ B)) := fun A B => by
      rw [← List.append_assoc, ← List.append_assoc]
      exact List.Perm.append_right B List.perm_append_comm
    refine round l (q.at .ready none) (q.at .busy none) bk k args i G1 w1 _ (fun _ => roundPost P l _) a1 hk hm hi ?_ ?_ ?_ (H1.perm (List.Perm.cons _ (pm _ _)))
    · intro T' G2 L2 a2 w2 c H2 h
      exact c_begin H2 h
    · intro i' T' G2 a2 w2 c H2 h2
      exact round_end none (H2.perm (List.Perm.cons _ (pm _ _).symm)) ⟨_, rfl, i', rfl, h2⟩
    · intro x T' G2 a2 w2 c H2 h2
      have H3 := H2.perm (List.Perm.cons _ (pm _ _).symm)
      refine ⟨fun e => ?_, fun n e => ?_⟩
      · exact round_end (some .ret) H3 ⟨_, _, rfl, x, e.symm, rfl, h2⟩
      · exact round_end (some (.exit n)) H3 ⟨_, _, rfl, x, e.symm, rfl, h2⟩
  · rintro Dk G1 L1 a1 w1 hm ⟨i, rfl, hi⟩ H1
    exact hdone Dk i G1 a1 w1 hm hi H1
  · rintro Dk c G1 L1 a1 w1 hm ⟨x, rfl, rfl, hx⟩ H1
    exact hstop Dk x G1 a1 w1 hm hx H1
/-! ## Loops in whose rounds functions are ranged over: the marks pile up -/
def mkD (ds : List Nat) : List Deferred := ds.map fun b => { target := .collected b, args := #[] }
def mkL (ds : List Nat) : OL := ds.map fun b => (b, .deferred (some []))
theorem c_loopD {r : Option Nat} {ι : Type} {c : Code} {Tc : List (Nat × Value)} {Lc : List (Nat × Obj)} (Dv : ι → List Deferred) (Tv : ι → List (Nat × Value)) (Lv : ι → List (Nat × Obj)) (Gv : ι → GH) (Pr : ι → Prop) (m : ι → Nat) (i0 : ι)
    (H : St N (Dv i0) w0 F G0 (Gv i0) (Lc ++ Lv i0) (Tv i0 ++ Tc) a w) (hP : Pr i0)
    (round : ∀ i a w, Pr i → St N (Dv i) w0 F G0 (Gv i) (Lc ++ Lv i) (Tv i ++ Tc) a w →
      WP r P c (Exit.then (fun a' w' => ∃ i', (St N (Dv i') w0 F G0 (Gv i') (Lc ++ Lv i') (Tv i' ++ Tc) a' w' ∧ Pr i') ∧ m i' < m i) Q) a w) : WP r P (.loop c) Q a w :=
  c_loop (fun i a w => St N (Dv i) w0 F G0 (Gv i) (Lc ++ Lv i) (Tv i ++ Tc) a w ∧ Pr i) m i0 ⟨H, hP⟩ fun i a w hI => round i a w hI.2 hI.1
theorem loopD_end {ι : Type} {Dv : ι → List Deferred} {Tc : List (Nat × Value)} {Lc : List (Nat × Obj)} {Tv : ι → List (Nat × Value)} {Lv : ι → List (Nat × Obj)} {Gv : ι → GH} {Pr : ι → Prop} {m : ι → Nat} {i : ι} (i' : ι)
    (H : St N (Dv i') w0 F G0 (Gv i') (Lc ++ Lv i') (Tv i' ++ Tc) a w) (hP : Pr i') (hm : m i' < m i) :
    ∃ i', (St N (Dv i') w0 F G0 (Gv i') (Lc ++ Lv i') (Tv i' ++ Tc) a w ∧ Pr i') ∧ m i' < m i := ⟨i', ⟨H, hP⟩, hm⟩
theorem leaveMs {fn : Func} {R : Ending → World → Prop} {Lh Lt : OL} : ∀ (ds : List Nat) {a : Act} {w : World}, St N (mkD ds) w0 F G0 G (Lh ++ (mkL ds ++ Lt)) T a w →
    (∀ a' w', St N [] w0 F G0 G (Lh ++ Lt) T a' w' → bodyPostM (FW none) 0 P fn R .ret a' w') → bodyPostM (FW none) 0 P fn R .ret a w ∧ bodyPostM (FW none) 0 P fn R .normal a w
  | [], a, w, H, k => ⟨k a w H, k a w H⟩
  | b :: ds, a, w, H, k => by
    refine leaveM (b := b) (D := mkD ds) H Lh.length (by rw [List.getElem?_append_right (Nat.le_refl _), Nat.sub_self]; rfl) fun a' w' H' => ?_
    refine (leaveMs ds (Lh := Lh) (Lt := Lt) (H'.cast ?_) k).1
    rw [List.eraseIdx_append_of_length_le (Nat.le_refl _), Nat.sub_self]; rfl
end
end
section
open Go.RowKit
/-- How many units run.Len finds in a flow of one item. -/
def n1 (x : ItemD) : Nat := if unitsE x = 0 then unitsS x else 0
theorem lenS_one (x : ItemD) : lenS [x] = n1 x := by
  simp only [lenS, divS, n1, sumS, List.all_cons, List.all_nil, Bool.and_true, decide_eq_true_eq]
  split <;> simp_all
mutual
/-- The positions of a flow and of those within it, from an item on. -/
def vItem (flow : Int) (at_ : Nat) : ItemD → List (Int × Int)
  | .mk k c i t h f r => (List.range (n1 (.mk k c i t h f r))).map (fun q => (flow, ((at_ + q : Nat) : Int))) ++ ((if k = 6 then vItems i 0 f else []) ++ vRows r)
def vItems (flow : Int) : Nat → List ItemD → List (Int × Int)
  | at_, [] => [(flow, (at_ : Int))]
  | at_, x :: l => vItem flow at_ x ++ vItems flow (at_ + n1 x) l
def vRows : List RowD → List (Int × Int)
  | [] => []
  | r :: l => vRow r ++ vRows l
def vRow : RowD → List (Int × Int)
  | .mk _ cs => vCells cs
def vCells : List CellD → List (Int × Int)
  | [] => []
  | c :: l => vCell c ++ vCells l
def vCell : CellD → List (Int × Int)
  | .mk i _ f => vItems i 0 f
end
theorem n1_le (x : ItemD) : n1 x < szR x.dat := by
  have h1 := zItem_eq x; have h2 := cntS_le x.text
  unfold n1 unitsS; split <;> (try split) <;> omega
/-- What is called at a position. -/
def posP (a : Int × Int) : AP := fun args _ => args = [.agg #[vi a.1, vi a.2]]
theorem RepV.len {G : GH} {sz : Nat} {rows : List (List Dat)} {A : Option Addr} {n c : Nat} (h : RepV G (.sl sz rows) (.slice A n c)) : n = rows.length := h.cells.1
theorem RepV.at_ {G : GH} {sz : Nat} {rows : List (List Dat)} {A : Option Addr} {n c : Nat} (h : RepV G (.sl sz rows) (.slice A n c)) : ∀ k r, rows[k]? = some r → ∃ b o cs, A = some ⟨b, o, none⟩ ∧ cs.length = sz ∧ (∀ j u, cs[j]? = some u → gcell G b (o + k * sz + j) = some u) ∧ RepRow G r cs := by
  obtain ⟨A2, c2, e, _, _, hg⟩ := h.slice
  cases e; exact hg
/-- A row that lies in memory. -/
theorem row_get {G : GH} {l : List RowD} {A : Option Addr} {k : Nat} (hk : k < l.length) (hg : ∀ k r, (l.map RowD.dat)[k]? = some r → ∃ b o cs, A = some ⟨b, o, none⟩ ∧ cs.length = 6 ∧ (∀ j u, cs[j]? = some u → gcell G b (o + k * 6 + j) = some u) ∧ RepRow G r cs) :
    ∃ b o pA pn pc dA dn dc yA yn yc cA cn cc, A = some ⟨b, o, none⟩ ∧ (∀ j u, [.slice pA pn pc, vi l[k].head.marks.ins, vi l[k].head.marks.move, .slice dA dn dc, .slice yA yn yc, .slice cA cn cc][j]? = some u → gcell G b (o + k * 6 + j) = some u) ∧
      HeadR G l[k].head (.slice pA pn pc) (.slice dA dn dc) (.slice yA yn yc) ∧ RepV G (.sl 7 (l[k].cells.map CellD.dat)) (.slice cA cn cc) := by
  obtain ⟨b, o, cs, h1, h2, h3, h4⟩ := hg k l[k].dat (by simp [hk]); obtain ⟨pA, pn, pc, dA, dn, dc, yA, yn, yc, cA, cn, cc, rfl, h5, h6⟩ := h4.row; exact ⟨b, o, pA, pn, pc, dA, dn, dc, yA, yn, yc, cA, cn, cc, h1, h3, h5, h6⟩
theorem cell_get {G : GH} {l : List CellD} {A : Option Addr} {k : Nat} (hk : k < l.length) (hg : ∀ k r, (l.map CellD.dat)[k]? = some r → ∃ b o cs, A = some ⟨b, o, none⟩ ∧ cs.length = 7 ∧ (∀ j u, cs[j]? = some u → gcell G b (o + k * 7 + j) = some u) ∧ RepRow G r cs) :
    ∃ b o pA pn pc dA dn dc yA yn yc fA fn fc, A = some ⟨b, o, none⟩ ∧ (∀ j u, [vi l[k].id, .slice pA pn pc, vi l[k].head.marks.ins, vi l[k].head.marks.move, .slice dA dn dc, .slice yA yn yc, .slice fA fn fc][j]? = some u → gcell G b (o + k * 7 + j) = some u) ∧
      HeadR G l[k].head (.slice pA pn pc) (.slice dA dn dc) (.slice yA yn yc) ∧ RepV G (.sl 11 (l[k].flow.map ItemD.dat)) (.slice fA fn fc) := by
  obtain ⟨b, o, cs, h1, h2, h3, h4⟩ := hg k l[k].dat (by simp [hk]); obtain ⟨pA, pn, pc, dA, dn, dc, yA, yn, yc, fA, fn, fc, rfl, h5, h6⟩ := h4.cell; exact ⟨b, o, pA, pn, pc, dA, dn, dc, yA, yn, yc, fA, fn, fc, h1, h3, h5, h6⟩
end
section
open Go.RowKit
mutual
theorem vItem_len (flow : Int) (at_ : Nat) : ∀ x : ItemD, (vItem flow at_ x).length < szR x.dat
  | .mk k c i t h f r => by
    have h1 := vItems_len i 0 f; have h2 := vRows_len r; have h3 := n1_le (.mk k c i t h f r); have h4 := zItem_eq (.mk k c i t h f r); have h5 := cntS_le t
    simp only [vItem, List.length_append, List.length_map, List.length_range]
    simp only [ItemD.text, ItemD.head, ItemD.flow, ItemD.rows] at h4
    have h6 : n1 (.mk k c i t h f r) ≤ t.size + 1 := by unfold n1 unitsS; simp only [ItemD.text]; split <;> (try split) <;> omega
    split <;> (try simp only [List.length_nil]) <;> omega
theorem vItems_len (flow : Int) : ∀ (at_ : Nat) (l : List ItemD), (vItems flow at_ l).length ≤ zItems l + 1
  | _, [] => by simp [vItems]
  | at_, x :: l => by
    have h1 := vItem_len flow at_ x; have h2 := vItems_len flow (at_ + n1 x) l
    simp only [vItems, List.length_append, zItems, List.map_cons, szRs] at *; omega
theorem vRows_len : ∀ l : List RowD, (vRows l).length ≤ zRows l
  | [] => by simp [vRows]
  | x :: l => by
    have h1 := vRow_len x; have h2 := vRows_len l
    simp only [vRows, List.length_append, zRows, List.map_cons, szRs] at *; omega
theorem vRow_len : ∀ x : RowD, (vRow x).length ≤ szR x.dat
  | .mk h cs => by
    have h1 := vCells_len cs; have h4 := zRow_eq (.mk h cs)
    simp only [RowD.head, RowD.cells] at h4
    simp only [vRow]; omega
theorem vCells_len : ∀ l : List CellD, (vCells l).length ≤ zCells l
  | [] => by simp [vCells]
  | x :: l => by
    have h1 := vCell_len x; have h2 := vCells_len l
    simp only [vCells, List.length_append, zCells, List.map_cons, szRs] at *; omega
theorem vCell_len : ∀ x : CellD, (vCell x).length ≤ szR x.dat
  | .mk i h f => by
    have h1 := vItems_len i 0 f; have h4 := zCell_eq (.mk i h f)
    simp only [CellD.head, CellD.flow] at h4
    simp only [vCell]; omega
end
/-- A document's value. -/
structure DocV where
  (f p d y r s1 s2 s3 s4 : Option Addr × Nat × Nat)
  (ins move : Int)
abbrev sl3 (x : Option Addr × Nat × Nat) : Value := .slice x.1 x.2.1 x.2.2
abbrev DocV.cells (D : DocV) : List Value := [sl3 D.f, sl3 D.p, vi D.ins, vi D.move, sl3 D.d, sl3 D.y, sl3 D.r, sl3 D.s1, sl3 D.s2, sl3 D.s3, sl3 D.s4]
abbrev DocV.val (D : DocV) : Value := .agg D.cells.toArray
/-- How many positions a document has. -/
def posN (l : List ItemD) : Nat := (vItems 0 0 l).length
end
section
open Go.RowKit
theorem en204doc : ∀ args w, (callFunc 204 args).run Tryz.prog w = .ok (.enter 204 args) w := enters Tryz.func204 rfl (by kernel_rfl)
theorem ty136doc : Ty Tryz.prog 136 3 16 [.bool false, .bool false, .int .i64 0] true := ⟨by kernel_rfl, by kernel_rfl⟩
theorem sr166doc : Srt Tryz.prog 166 [(0, 1), (1, 3)] [.slice none 0 0, .bool false, .bool false, .int .i64 0] := ⟨by kernel_rfl, by kernel_rfl⟩
theorem fd35_2doc : Fld Tryz.prog 35 2 2 := ⟨by kernel_rfl⟩
theorem fd136_2doc : Fld Tryz.prog 136 2 2 := ⟨by kernel_rfl⟩
theorem sr136doc : Srt Tryz.prog 136 [(0, 1), (1, 1), (2, 1)] [.bool false, .bool false, .int .i64 0] := ⟨by kernel_rfl, by kernel_rfl⟩
theorem fd136_1doc : Fld Tryz.prog 136 1 1 := ⟨by kernel_rfl⟩
theorem ty4doc : Ty Tryz.prog 4 1 1 [.bool false] false := ⟨by kernel_rfl, by kernel_rfl⟩
theorem fd50_0doc : Fld Tryz.prog 50 0 0 := ⟨by kernel_rfl⟩
theorem en160doc : ∀ args w, (callFunc 160 args).run Tryz.prog w = .ok (.enter 160 args) w := enters Tryz.func160 rfl (by kernel_rfl)
theorem en203doc : ∀ args w, (callFunc 203 args).run Tryz.prog w = .ok (.enter 203 args) w := enters Tryz.func203 rfl (by kernel_rfl)
/-- A flow and its place. -/
structure FlowD where
  id : Int
  items : List ItemD
  body : Bool
  note : Bool
  tables : Int
mutual
def wItem (note : Bool) (t : Int) : ItemD → List FlowD
  | .mk k _ i _ _ f r => if k = 6 then ⟨i, f, false, true, t⟩ :: wItems true t f else if k = 7 then wRows note t r else []
def wItems (note : Bool) (t : Int) : List ItemD → List FlowD
  | [] => []
  | x :: l => wItem note t x ++ wItems note t l
def wRows (note : Bool) (t : Int) : List RowD → List FlowD
  | [] => []
  | r :: l => wRow note t r ++ wRows note t l
def wRow (note : Bool) (t : Int) : RowD → List FlowD
  | .mk _ cs => wCells note t cs
def wCells (note : Bool) (t : Int) : List CellD → List FlowD
  | [] => []
  | c :: l => wCell note t c ++ wCells note t l
def wCell (note : Bool) (t : Int) : CellD → List FlowD
  | .mk i _ f => ⟨i, f, false, note, t + 1⟩ :: wItems note (t + 1) f
end
theorem wItem_eq (note : Bool) (t : Int) (x : ItemD) : wItem note t x = if x.kind = 6 then ⟨x.id, x.flow, false, true, t⟩ :: wItems true t x.flow else if x.kind = 7 then wRows note t x.rows else [] := by cases x; rw [wItem]; rfl
theorem wRow_eq (note : Bool) (t : Int) (x : RowD) : wRow note t x = wCells note t x.cells := by cases x; rw [wRow]; rfl
theorem wCell_eq (note : Bool) (t : Int) (x : CellD) : wCell note t x = ⟨x.id, x.flow, false, note, t + 1⟩ :: wItems note (t + 1) x.flow := by cases x; rw [wCell]; rfl
/-- What is called at a flow. -/
def flP (a : FlowD) : AP := fun args g => ∃ v, args = [vi a.id, .agg #[v, .bool a.body, .bool a.note, vi a.tables]] ∧ RepV g (.sl 11 (a.items.map ItemD.dat)) v
def WalkOk (n : Nat) : Prop := ∀ (fv : Value) (Gi : GH) (xs : List AP) (J : Nat → GH → OL → Prop) (Jx : GH → OL → Prop) (G : GH) (L : OL) (w0 : World) (j : Nat) (l : List ItemD) (id : Int) (body note : Bool) (t : Int) (v : Value),
  (∀ b o, Gi b = some o → G b = some o) → Cback Tryz.prog fv Gi xs J Jx → JMono J → XMono Jx → J j G L → Owns G L w0 → RepV G (.sl 11 (l.map ItemD.dat)) v → zItems l < n → 0 ≤ t → t + zItems l ≤ 4294967296 → (∀ i a, (⟨id, l, body, note, t⟩ :: wItems note t l)[i]? = some a → xs[j + i]? = some (flP a)) →
  Calls Tryz.prog 204 #[vi id, v, .agg #[.bool body, .bool note, vi t], fv] w0 (RetL w0 G L fun u G' L' => ∃ b, u = .bool b ∧ (b = true → J (j + ((wItems note t l).length + 1)) G' L') ∧ (b = false → Jx G' L'))
set_option maxHeartbeats 1000000 in
theorem walk_step {n : Nat} (ih : WalkOk n) (hn : n ≤ 4294967296) : WalkOk (n + 1) := by
  intro fv Gi xs J Jx G L w0 j0 l id body note t v hGi hcb hJm hJx hJ0 hO hv hz ht0 ht1 hx0; obtain ⟨A, c, rfl, hc1, hc2, hg⟩ := hv.slice; rw [List.length_map] at *; have hll := zItems_length l; have hnow0 : Now xs flP J (j0 + ((wItems note t l).length + 1)) j0 (⟨id, l, body, note, t⟩ :: wItems note t l) G L := ⟨hJ0, hx0, rfl⟩; refine enterL (N := 74) (T := [(0, _), (1, _), (2, _), (3, _)]) Tryz.func204 rfl Tryz.ntmps204 rfl rfl hO ?_; intro a H; refine c_seqR (fun _ hK1 => ?_); refine s_box (cs := [_, _, _]) H wn rfl rfl rfl ?_; clear H; intro b6 a w hb6 H; refine s_assign H wn rfl rfl ?_; clear H; intro a H; refine hK1 _ _ ?_; clear hK1; refine c_seq (fun _ hK2 => ?_); refine c_seqR (fun _ hK3 => ?_); (iterate 3 refine s_move H wn rfl rfl ?_; clear H; intro a H); refine s_loada ty136doc (cs := [_, _, _]) H wn rfl rfl (H.hp.ocells 0 rfl rfl) rfl ?_; clear H; intro a H; refine s_build sr166doc [_, _, _, _] H wn rfl rfl rfl rfl ?_; clear H; intro a H; refine s_callv (Li := [_]) (L := L) H wn rfl rfl (hcb _ _ _ _ _ ⟨_, hnow0.head, _, rfl, hv⟩ hGi hnow0.now (Hp.owns (Li := [_]) H.hp)) rfl ?_; clear H; rintro v20 G20 Lt20 a w ⟨b20, rfl, hb1, hb2⟩ hm20 H; refine s_not H wn rfl rfl ?_; clear H; intro a H; refine hK3 _ _ ?_; clear hK3; refine c_cond H rfl ?_ ?_
  · intro h21
    try have p21 := of_decide_eq_true h21
    refine c_seqR (fun _ hK4 => ?_); refine s_assign H wn rfl rfl ?_; clear H; intro a H; refine hK4 _ _ ?_; clear hK4; refine c_ret ?_; refine (leave1 H Tryz.results204 (.cons (rv_tmp H rfl) .nil) ?_).1
    first
      | exact H.hp.retD (L' := Lt20) (by repeat (first | exact List.Sublist.refl _ | apply List.Sublist.cons)) ⟨_, rfl, fun e => (by cases e), fun _ => hb2 (by simpa using h21)⟩
      | exact H.hp.retD (L' := Lt40) (by repeat (first | exact List.Sublist.refl _ | apply List.Sublist.cons)) ⟨_, rfl, fun e => (by cases e), fun _ => hb4 (by simpa using h41)⟩
      | exact H.hp.retD (L' := Lt69) (by repeat (first | exact List.Sublist.refl _ | apply List.Sublist.cons)) ⟨_, rfl, fun e => (by cases e), fun _ => hb6 (by simpa using h70)⟩
      | exact H.hp.retD (L' := Lt) (by repeat (first | exact List.Sublist.refl _ | apply List.Sublist.cons)) ⟨_, rfl, fun _ => (by rw [List.drop_of_length_le (by omega), wItems] at hnow; have := hnow.len; simp only [List.length_nil, Nat.add_zero] at this; rw [← this]; exact hnow.now), fun e => (by cases e)⟩
  intro h21
  try have p21 := of_decide_eq_false h21
  refine c_skip ?_; refine hK2 _ _ ?_; clear hK2; refine c_seq (fun _ hK5 => ?_); refine c_seqR (fun _ hK6 => ?_); refine s_move H wn rfl rfl ?_; clear H; intro a H; refine s_len un32run H wn rfl rfl ?_; clear H; intro a H; refine s_move H wn rfl rfl ?_; clear H; intro a H; refine hK6 _ _ ?_; clear hK6; refine c_block ?_; skip; refine c_loopS (ι := Nat × Nat × OL × GH) (Tc := [(3, _), (6, _), (22, _), (23, _)]) (Lc := [(_, _)]) (fun (gh : Nat × Nat × OL × GH) => [(24, vi gh.1)]) (fun (gh : Nat × Nat × OL × GH) => [] ++ gh.2.2.1) (fun (gh : Nat × Nat × OL × GH) => gh.2.2.2) (fun (gh : Nat × Nat × OL × GH) => gh.1 ≤ l.length ∧ (∀ b o, G b = some o → gh.2.2.2 b = some o) ∧ Now xs flP J (j0 + ((wItems note t l).length + 1)) gh.2.1 (wItems note t (l.drop gh.1)) gh.2.2.2 gh.2.2.1) (fun (gh : Nat × Nat × OL × GH) => l.length - gh.1) ((0, j0 + 1, Lt20, G20)) (by exact (H).sub ⟨rfl, rfl, rfl, rfl, rfl, trivial⟩) ?_ ?_
  · exact ⟨by omega, hm20, hnow0.step (hb1 (by simpa using h21))⟩
  clear H; intro gh a w hI H; obtain ⟨k, j1, Lt, g⟩ := gh; dsimp only at hI H; obtain ⟨hk, hgm, hnow⟩ := hI; dsimp only [List.cons_append, List.nil_append, List.append_nil] at H; refine c_seqR (fun _ hK7 => ?_); refine s_cmp H wn rfl rfl rfl rfl ?_; clear H; intro a H; refine hK7 _ _ ?_; clear hK7; refine c_seq (fun _ hK8 => ?_); refine c_cond H rfl ?_ ?_
  · intro h25
    try have p25 := of_decide_eq_true h25
    have hk2 : k < l.length := by omega
    obtain ⟨b, o, pA, pn, pc, dA, dn, dc, yA, yn, yc, fA, fn, fc, rA, rn, rc, rfl, hrow, hhd, hfl, hrw⟩ := flow_get hk2 hg; replace hrow := fun j u hj => gcell_mono hgm (hrow j u hj); have hrn := hrw.len; rw [List.length_map] at hrn; subst hrn; have hrs := zRows_length l[k].rows; have hsz1 := zItems_get hk2; rw [List.drop_eq_getElem_cons hk2] at hnow
    simp only [wItems, wItem_eq] at hnow
    refine c_skip ?_; refine hK8 _ _ ?_; clear hK8; refine c_seq (fun _ hK9 => ?_); refine c_block ?_; refine c_seqR (fun _ hK10 => ?_); refine s_index un32run ty35run _ H wn rfl rfl rfl (by first | assumption | omega) rfl ?_; clear H; intro a H; refine s_loada ty35run (cs := [_, _, _, _, _, _, _, _, _, _, _]) H wn rfl rfl (fun j v hj => H.hp.gcell (hrow j v hj)) rfl ?_; clear H; intro a H; refine s_alloc ty35run H wn rfl ?_; clear H; intro b10 a w hb10 H; refine s_store ty35run 0 (vs := [_, _, _, _, _, _, _, _, _, _, _]) _ H wn rfl rfl rfl rfl rfl rfl rfl rfl ?_; clear H; intro w H; dsimp only [List.set, setRow] at H; refine hK10 _ _ ?_; clear hK10; refine c_seqR (fun _ hK11 => ?_); refine s_field fd35_0run H wn rfl rfl ?_; clear H; intro a H; refine s_load ty3run H wn rfl (H.hp.ocell 0 rfl rfl) rfl ?_; clear H; intro a H; refine hK11 _ _ ?_; clear hK11; refine c_block ?_; refine c_seqR (fun _ hK12 => ?_); refine s_cmp H wn rfl rfl rfl rfl ?_; clear H; intro a H; refine s_assign H wn rfl rfl ?_; clear H; intro a H; refine hK12 _ _ ?_; clear hK12; refine c_cond H rfl ?_ ?_
    · intro h30
      try have p30 := of_decide_eq_true h30
      rw [if_pos p30] at hnow; refine c_seqR (fun _ hK13 => ?_); refine s_field fd35_2doc H wn rfl rfl ?_; clear H; intro a H; refine s_load ty3run H wn rfl (H.hp.ocell 0 rfl rfl) rfl ?_; clear H; intro a H; refine s_field fd35_5run H wn rfl rfl ?_; clear H; intro a H; refine s_load ty32run H wn rfl (H.hp.ocell 0 rfl rfl) rfl ?_; clear H; intro a H; refine s_field fd136_2doc H wn rfl rfl ?_; clear H; intro a H; refine s_load ty3run H wn rfl (H.hp.ocell 1 rfl rfl) rfl ?_; clear H; intro a H; refine s_build sr136doc [_, _, _] H wn rfl rfl rfl rfl ?_; clear H; intro a H; refine s_move H wn rfl rfl ?_; clear H; intro a H; refine s_callL en204doc (Li := [_, _]) (L := Lt) H wn rfl (ih fv Gi xs J Jx _ _ _ j1 l[k].flow l[k].id false true t _ (fun b o h => hgm b o (hGi b o h)) hcb hJm hJx hnow.now (Hp.owns (Li := [_, _]) H.hp) (hfl.mono hgm) (by omega) ht0 (by omega) hnow.part) rfl ?_; clear H; rintro v40 G40 Lt40 a w ⟨b40, rfl, hb3, hb4⟩ hm40 H; refine s_not H wn rfl rfl ?_; clear H; intro a H; refine hK13 _ _ ?_; clear hK13; refine c_cond H rfl ?_ ?_
      · intro h41
        try have p41 := of_decide_eq_true h41
        refine c_seqR (fun _ hK14 => ?_); refine s_assign H wn rfl rfl ?_; clear H; intro a H; refine hK14 _ _ ?_; clear hK14; refine c_ret ?_; refine (leave1 H Tryz.results204 (.cons (rv_tmp H rfl) .nil) ?_).1
        first
          | exact H.hp.retD (L' := Lt20) (by repeat (first | exact List.Sublist.refl _ | apply List.Sublist.cons)) ⟨_, rfl, fun e => (by cases e), fun _ => hb2 (by simpa using h21)⟩
          | exact H.hp.retD (L' := Lt40) (by repeat (first | exact List.Sublist.refl _ | apply List.Sublist.cons)) ⟨_, rfl, fun e => (by cases e), fun _ => hb4 (by simpa using h41)⟩
          | exact H.hp.retD (L' := Lt69) (by repeat (first | exact List.Sublist.refl _ | apply List.Sublist.cons)) ⟨_, rfl, fun e => (by cases e), fun _ => hb6 (by simpa using h70)⟩
          | exact H.hp.retD (L' := Lt) (by repeat (first | exact List.Sublist.refl _ | apply List.Sublist.cons)) ⟨_, rfl, fun _ => (by rw [List.drop_of_length_le (by omega), wItems] at hnow; have := hnow.len; simp only [List.length_nil, Nat.add_zero] at this; rw [← this]; exact hnow.now), fun e => (by cases e)⟩
      intro h41
      try have p41 := of_decide_eq_false h41
      refine c_skip ?_; refine hK9 _ _ ?_; clear hK9; refine c_region ?_; refine s_add _ H wn rfl rfl rfl (by omega) (by omega) rfl ?_; clear H; intro a H; refine s_move H wn rfl rfl ?_; clear H; intro a H; refine wl_nil ?_; refine loop_end ((k + 1, j1 + ((wItems true t l[k].flow).length + 1), Lt40, G40)) (by exact (H.pickT (Pl := [_, _]) (Pl' := [_]) [1] (by decide) rfl).sub ⟨rfl, rfl, rfl, rfl, rfl, trivial⟩) ?_ ?_
      · (try dsimp only); exact ⟨by omega, fun b o h => hm40 b o (hgm b o h), hnow.jump (hb3 (by simpa using h41))⟩
      first | omega | (dsimp only; omega)
    intro h30
    try have p30 := of_decide_eq_false h30
    refine c_seqR (fun _ hK15 => ?_); refine s_cmp H wn rfl rfl rfl rfl ?_; clear H; intro a H; refine s_assign H wn rfl rfl ?_; clear H; intro a H; refine hK15 _ _ ?_; clear hK15; refine c_cond H rfl ?_ ?_
    · intro h42
      try have p42 := of_decide_eq_true h42
      rw [if_neg p30, if_pos p42] at hnow; refine c_seqR (fun _ hK16 => ?_); refine s_field fd35_6run H wn rfl rfl ?_; clear H; intro a H; refine s_load ty33run H wn rfl (H.hp.ocell 0 rfl rfl) rfl ?_; clear H; intro a H; refine s_len un33run H wn rfl rfl ?_; clear H; intro a H; refine s_move H wn rfl rfl ?_; clear H; intro a H; refine hK16 _ _ ?_; clear hK16; refine c_block ?_; skip; refine c_loopS (ι := Nat × Nat × OL × GH) (Tc := [(3, _), (6, _), (22, _), (23, _), (24, _), (45, _), (46, _)]) (Lc := [(_, _), (_, _)]) (fun (gh : Nat × Nat × OL × GH) => [(47, vi gh.1)]) (fun (gh : Nat × Nat × OL × GH) => [] ++ gh.2.2.1) (fun (gh : Nat × Nat × OL × GH) => gh.2.2.2) (fun (gh : Nat × Nat × OL × GH) => gh.1 ≤ l[k].rows.length ∧ (∀ b o, G b = some o → gh.2.2.2 b = some o) ∧ Now xs flP J (j0 + ((wItems note t l).length + 1)) gh.2.1 (wRows note t (l[k].rows.drop gh.1) ++ wItems note t (l.drop (k + 1))) gh.2.2.2 gh.2.2.1) (fun (gh : Nat × Nat × OL × GH) => l[k].rows.length - gh.1) ((0, j1, Lt, g)) (by exact (H).sub ⟨rfl, rfl, rfl, rfl, rfl, rfl, rfl, rfl, trivial⟩) ?_ ?_
      · exact ⟨by omega, hgm, hnow⟩
      clear H; intro gh a w hI H; obtain ⟨rk, j3, Lt3, g3⟩ := gh; dsimp only at hI H; obtain ⟨hrk, hgm3, hnow3⟩ := hI; dsimp only [List.cons_append, List.nil_append, List.append_nil] at H; refine c_seqR (fun _ hK17 => ?_); refine s_cmp H wn rfl rfl rfl rfl ?_; clear H; intro a H; refine hK17 _ _ ?_; clear hK17; refine c_seq (fun _ hK18 => ?_); refine c_cond H rfl ?_ ?_
      · intro h48
        try have p48 := of_decide_eq_true h48
        have hk3 : rk < l[k].rows.length := by omega
        obtain ⟨b2, o2, qA, qn, qc, eA, en, ec, zA, zn, zc, cA, cn, cc, rfl, hrow, hrh, hcl⟩ := row_get hk3 hrw.at_; replace hrow := fun j u hj => gcell_mono hgm3 (hrow j u hj); have hcn := hcl.len; rw [List.length_map] at hcn; subst hcn; have hsz2 := zRows_get hk3; have hcs := zCells_length l[k].rows[rk].cells; rw [List.drop_eq_getElem_cons hk3] at hnow3
        simp only [wRows, wRow_eq, List.append_assoc] at hnow3
        refine c_skip ?_; refine hK18 _ _ ?_; clear hK18; refine c_seq (fun _ hK19 => ?_); refine c_block ?_; refine c_seqR (fun _ hK20 => ?_); refine s_index un33run ty171run _ H wn rfl rfl rfl (by first | assumption | omega) rfl ?_; clear H; intro a H; refine s_loada ty171run (cs := [_, _, _, _, _, _]) H wn rfl rfl (fun j v hj => H.hp.gcell (hrow j v hj)) rfl ?_; clear H; intro a H; refine s_alloc ty171run H wn rfl ?_; clear H; intro b12 a w hb12 H; refine s_store ty171run 0 (vs := [_, _, _, _, _, _]) _ H wn rfl rfl rfl rfl rfl rfl rfl rfl ?_; clear H; intro w H; dsimp only [List.set, setRow] at H; refine hK20 _ _ ?_; clear hK20; refine c_seqR (fun _ hK21 => ?_); refine s_field fd171_1run H wn rfl rfl ?_; clear H; intro a H; refine s_load ty169run H wn rfl (H.hp.ocell 0 rfl rfl) rfl ?_; clear H; intro a H; refine s_len un169run H wn rfl rfl ?_; clear H; intro a H; refine s_move H wn rfl rfl ?_; clear H; intro a H; refine hK21 _ _ ?_; clear hK21; refine c_block ?_; skip; refine c_loopS (ι := Nat × Nat × OL × GH) (Tc := [(3, _), (6, _), (22, _), (23, _), (24, _), (45, _), (46, _), (47, _), (52, _), (53, _)]) (Lc := [(_, _), (_, _), (_, _)]) (fun (gh : Nat × Nat × OL × GH) => [(54, vi gh.1)]) (fun (gh : Nat × Nat × OL × GH) => [] ++ gh.2.2.1) (fun (gh : Nat × Nat × OL × GH) => gh.2.2.2) (fun (gh : Nat × Nat × OL × GH) => gh.1 ≤ l[k].rows[rk].cells.length ∧ (∀ b o, G b = some o → gh.2.2.2 b = some o) ∧ Now xs flP J (j0 + ((wItems note t l).length + 1)) gh.2.1 (wCells note t (l[k].rows[rk].cells.drop gh.1) ++ (wRows note t (l[k].rows.drop (rk + 1)) ++ wItems note t (l.drop (k + 1)))) gh.2.2.2 gh.2.2.1) (fun (gh : Nat × Nat × OL × GH) => l[k].rows[rk].cells.length - gh.1) ((0, j3, Lt3, g3)) (by exact (H).sub ⟨rfl, rfl, rfl, rfl, rfl, rfl, rfl, rfl, rfl, rfl, rfl, trivial⟩) ?_ ?_
        · exact ⟨by omega, hgm3, hnow3⟩
        clear H; intro gh a w hI H; obtain ⟨ck, j4, Lt4, g4⟩ := gh; dsimp only at hI H; obtain ⟨hck, hgm4, hnow4⟩ := hI; dsimp only [List.cons_append, List.nil_append, List.append_nil] at H; refine c_seqR (fun _ hK22 => ?_); refine s_cmp H wn rfl rfl rfl rfl ?_; clear H; intro a H; refine hK22 _ _ ?_; clear hK22; refine c_seq (fun _ hK23 => ?_); refine c_cond H rfl ?_ ?_
        · intro h55
          try have p55 := of_decide_eq_true h55
          have hk4 : ck < l[k].rows[rk].cells.length := by omega
          obtain ⟨b3, o3, sA, sn, sc, tA, tn, tc, uA, un, uc, gA, gn, gc, rfl, hrow, hch, hcf⟩ := cell_get hk4 hcl.at_; replace hrow := fun j u hj => gcell_mono hgm4 (hrow j u hj); have hsz3 := zCells_get hk4; rw [List.drop_eq_getElem_cons hk4] at hnow4
          simp only [wCells, wCell_eq, List.append_assoc] at hnow4
          refine c_skip ?_; refine hK23 _ _ ?_; clear hK23; refine c_seq (fun _ hK24 => ?_); refine c_block ?_; refine c_seqR (fun _ hK25 => ?_); refine s_index un169run ty174run _ H wn rfl rfl rfl (by first | assumption | omega) rfl ?_; clear H; intro a H; refine s_loada ty174run (cs := [_, _, _, _, _, _, _]) H wn rfl rfl (fun j v hj => H.hp.gcell (hrow j v hj)) rfl ?_; clear H; intro a H; refine s_alloc ty174run H wn rfl ?_; clear H; intro b14 a w hb14 H; refine s_store ty174run 0 (vs := [_, _, _, _, _, _, _]) _ H wn rfl rfl rfl rfl rfl rfl rfl rfl ?_; clear H; intro w H; dsimp only [List.set, setRow] at H; refine hK25 _ _ ?_; clear hK25; refine c_seqR (fun _ hK26 => ?_); refine s_field fd174_0run H wn rfl rfl ?_; clear H; intro a H; refine s_load ty3run H wn rfl (H.hp.ocell 0 rfl rfl) rfl ?_; clear H; intro a H; refine s_field fd174_2run H wn rfl rfl ?_; clear H; intro a H; refine s_load ty32run H wn rfl (H.hp.ocell 0 rfl rfl) rfl ?_; clear H; intro a H; refine s_field fd136_1doc H wn rfl rfl ?_; clear H; intro a H; refine s_load ty4doc H wn rfl (H.hp.ocell 3 rfl rfl) rfl ?_; clear H; intro a H; refine s_field fd136_2doc H wn rfl rfl ?_; clear H; intro a H; refine s_load ty3run H wn rfl (H.hp.ocell 3 rfl rfl) rfl ?_; clear H; intro a H; refine s_add _ H wn rfl rfl rfl (by omega) (by omega) rfl ?_; clear H; intro a H; refine s_build sr136doc [_, _, _] H wn rfl rfl rfl rfl ?_; clear H; intro a H; refine s_move H wn rfl rfl ?_; clear H; intro a H; refine s_callL en204doc (Li := [_, _, _, _]) (L := Lt4) H wn rfl (ih fv Gi xs J Jx _ _ _ j4 l[k].rows[rk].cells[ck].flow l[k].rows[rk].cells[ck].id false note (t + 1) _ (fun b o h => hgm4 b o (hGi b o h)) hcb hJm hJx hnow4.now (Hp.owns (Li := [_, _, _, _]) H.hp) (hcf.mono hgm4) (by omega) (by omega) (by omega) hnow4.part) rfl ?_; clear H; rintro v69 G69 Lt69 a w ⟨b69, rfl, hb5, hb6⟩ hm69 H; refine s_not H wn rfl rfl ?_; clear H; intro a H; refine hK26 _ _ ?_; clear hK26; refine c_cond H rfl ?_ ?_
          · intro h70
            try have p70 := of_decide_eq_true h70
            refine c_seqR (fun _ hK27 => ?_); refine s_assign H wn rfl rfl ?_; clear H; intro a H; refine hK27 _ _ ?_; clear hK27; refine c_ret ?_; refine (leave1 H Tryz.results204 (.cons (rv_tmp H rfl) .nil) ?_).1
            first
              | exact H.hp.retD (L' := Lt20) (by repeat (first | exact List.Sublist.refl _ | apply List.Sublist.cons)) ⟨_, rfl, fun e => (by cases e), fun _ => hb2 (by simpa using h21)⟩
              | exact H.hp.retD (L' := Lt40) (by repeat (first | exact List.Sublist.refl _ | apply List.Sublist.cons)) ⟨_, rfl, fun e => (by cases e), fun _ => hb4 (by simpa using h41)⟩
              | exact H.hp.retD (L' := Lt69) (by repeat (first | exact List.Sublist.refl _ | apply List.Sublist.cons)) ⟨_, rfl, fun e => (by cases e), fun _ => hb6 (by simpa using h70)⟩
              | exact H.hp.retD (L' := Lt) (by repeat (first | exact List.Sublist.refl _ | apply List.Sublist.cons)) ⟨_, rfl, fun _ => (by rw [List.drop_of_length_le (by omega), wItems] at hnow; have := hnow.len; simp only [List.length_nil, Nat.add_zero] at this; rw [← this]; exact hnow.now), fun e => (by cases e)⟩
          intro h70
          try have p70 := of_decide_eq_false h70
          refine c_skip ?_; refine hK24 _ _ ?_; clear hK24; refine c_region ?_; refine s_add _ H wn rfl rfl rfl (by omega) (by omega) rfl ?_; clear H; intro a H; refine s_move H wn rfl rfl ?_; clear H; intro a H; refine wl_nil ?_; refine loop_end ((ck + 1, j4 + ((wItems note (t + 1) l[k].rows[rk].cells[ck].flow).length + 1), Lt69, G69)) (by exact (H.pickT (Pl := [_, _, _, _]) (Pl' := [_, _, _]) [1, 2, 3] (by decide) rfl).sub ⟨rfl, rfl, rfl, rfl, rfl, rfl, rfl, rfl, rfl, rfl, rfl, trivial⟩) ?_ ?_
          · (try dsimp only); exact ⟨by omega, fun b o h => hm69 b o (hgm4 b o h), hnow4.jump (hb5 (by simpa using h70))⟩
          first | omega | (dsimp only; omega)
        intro h55
        try have p55 := of_decide_eq_false h55
        refine c_exit ?_; refine hK19 _ _ ?_; clear hK19; refine c_region ?_; refine s_add _ H wn rfl rfl rfl (by omega) (by omega) rfl ?_; clear H; intro a H; refine s_move H wn rfl rfl ?_; clear H; intro a H; refine wl_nil ?_; refine loop_end ((rk + 1, j4, Lt4, g4)) (by exact (H.pickT (Pl := [_, _, _]) (Pl' := [_, _]) [1, 2] (by decide) rfl).sub ⟨rfl, rfl, rfl, rfl, rfl, rfl, rfl, rfl, trivial⟩) ?_ ?_
        · (try dsimp only); exact ⟨by omega, hgm4, by rw [List.drop_of_length_le (by omega), wCells, List.nil_append] at hnow4; exact hnow4⟩
        first | omega | (dsimp only; omega)
      intro h48
      try have p48 := of_decide_eq_false h48
      refine c_exit ?_; refine hK9 _ _ ?_; clear hK9; refine c_region ?_; refine s_add _ H wn rfl rfl rfl (by omega) (by omega) rfl ?_; clear H; intro a H; refine s_move H wn rfl rfl ?_; clear H; intro a H; refine wl_nil ?_; refine loop_end ((k + 1, j3, Lt3, g3)) (by exact (H.pickT (Pl := [_, _]) (Pl' := [_]) [1] (by decide) rfl).sub ⟨rfl, rfl, rfl, rfl, rfl, trivial⟩) ?_ ?_
      · (try dsimp only); exact ⟨by omega, hgm3, by rw [List.drop_of_length_le (by omega), wRows, List.nil_append] at hnow3; exact hnow3⟩
      first | omega | (dsimp only; omega)
    intro h42
    try have p42 := of_decide_eq_false h42
    refine c_skip ?_; refine hK9 _ _ ?_; clear hK9; refine c_region ?_; refine s_add _ H wn rfl rfl rfl (by omega) (by omega) rfl ?_; clear H; intro a H; refine s_move H wn rfl rfl ?_; clear H; intro a H; refine wl_nil ?_; refine loop_end ((k + 1, j1, Lt, g)) (by exact (H.pickT (Pl := [_, _]) (Pl' := [_]) [1] (by decide) rfl).sub ⟨rfl, rfl, rfl, rfl, rfl, trivial⟩) ?_ ?_
    · (try dsimp only); exact ⟨by omega, hgm, by rw [if_neg p30, if_neg p42, List.nil_append] at hnow; exact hnow⟩
    first | omega | (dsimp only; omega)
  intro h25
  try have p25 := of_decide_eq_false h25
  refine c_exit ?_; refine hK5 _ _ ?_; clear hK5; refine c_seqR (fun _ hK28 => ?_); refine s_assign H wn rfl rfl ?_; clear H; intro a H; refine hK28 _ _ ?_; clear hK28; refine c_ret ?_; refine (leave1 H Tryz.results204 (.cons (rv_tmp H rfl) .nil) ?_).1
  first
    | exact H.hp.retD (L' := Lt20) (by repeat (first | exact List.Sublist.refl _ | apply List.Sublist.cons)) ⟨_, rfl, fun e => (by cases e), fun _ => hb2 (by simpa using h21)⟩
    | exact H.hp.retD (L' := Lt40) (by repeat (first | exact List.Sublist.refl _ | apply List.Sublist.cons)) ⟨_, rfl, fun e => (by cases e), fun _ => hb4 (by simpa using h41)⟩
    | exact H.hp.retD (L' := Lt69) (by repeat (first | exact List.Sublist.refl _ | apply List.Sublist.cons)) ⟨_, rfl, fun e => (by cases e), fun _ => hb6 (by simpa using h70)⟩
    | exact H.hp.retD (L' := Lt) (by repeat (first | exact List.Sublist.refl _ | apply List.Sublist.cons)) ⟨_, rfl, fun _ => (by rw [List.drop_of_length_le (by omega), wItems] at hnow; have := hnow.len; simp only [List.length_nil, Nat.add_zero] at this; rw [← this]; exact hnow.now), fun e => (by cases e)⟩
theorem walk_ok : ∀ n : Nat, n ≤ 4294967297 → WalkOk n
  | 0, _ => fun _ _ _ _ _ _ _ _ _ _ _ _ _ _ _ _ _ _ _ _ _ _ h => absurd h (by omega)
  | n + 1, hn => walk_step (walk_ok n (by omega)) (by omega)
/-- All flows of a document. -/
def flowsD (l : List ItemD) : List FlowD := ⟨0, l, true, false, 0⟩ :: wItems false 0 l
theorem flows1_iter {G : GH} {ba bl bp : Nat} {l : List ItemD} {v : Value} {id t : Int} {body note : Bool} (h1 : gcell G ba 0 = some (vi id)) (h2 : gcell G bl 0 = some v) (h3 : G bp = some (.cells #[.bool body, .bool note, vi t] 136 (0, 0))) (hv : RepV G (.sl 11 (l.map ItemD.dat)) v) (hz : zItems l ≤ 4294967296) (ht0 : 0 ≤ t) (ht1 : t + zItems l ≤ 4294967296) :
    Iter Tryz.prog G (.func (.func 203) #[] #[.pointer (some ⟨ba, 0, none⟩), .pointer (some ⟨bl, 0, none⟩), .pointer (some ⟨bp, 0, none⟩)]) ((⟨id, l, body, note, t⟩ :: wItems note t l).map flP) := by
  intro J Jx fv G1 L w0 hfv hGi hJm hJx hJ hO hcb; refine callV_func (caps := [.pointer (some ⟨ba, 0, none⟩), .pointer (some ⟨bl, 0, none⟩), .pointer (some ⟨bp, 0, none⟩)]) en203doc ?_; replace h1 := gcell_mono hGi h1; replace h2 := gcell_mono hGi h2
  have hrow : ∀ j u, [.bool body, .bool note, vi t][j]? = some u → gcell G1 bp (0 + j) = some u := by
    intro j u hj; refine gcell_mono hGi ?_
    unfold gcell; rw [h3]; simpa using hj
  refine enterL (N := 10) (T := [(0, _), (1, _), (2, _), (3, _)]) Tryz.func203 rfl Tryz.ntmps203 rfl rfl hO ?_; intro a H; refine c_region ?_; refine s_load ty3run H wn rfl (H.hp.gcell (by assumption)) rfl ?_; clear H; intro a H; refine s_load ty32run H wn rfl (H.hp.gcell (by assumption)) rfl ?_; clear H; intro a H; refine s_loada ty136doc (cs := [_, _, _]) H wn rfl rfl (fun j v hj => H.hp.gcell (hrow j v hj)) rfl ?_; clear H; intro a H; refine s_move H wn rfl rfl ?_; clear H; intro a H; refine s_callL en204doc (Li := []) (L := L) H wn rfl (walk_ok 4294967297 (by omega) _ G1 _ J Jx G1 _ _ 0 l id body note t _ (fun _ _ h => h) hcb hJm hJx hJ (Hp.owns (Li := []) H.hp) (hv.mono hGi) (by omega) ht0 ht1 (fun i a h => by rw [Nat.zero_add, List.getElem?_map, h]; rfl)) rfl ?_; clear H; rintro v9 G9 L9 a w ⟨b9, rfl, h1, h2⟩ hm9 H; refine wl_nil ?_; refine (leave0 H Tryz.results203 ?_).2
  cases b9
  · exact H.hp.retL (.inr (h2 rfl))
  exact H.hp.retL (.inl (by simpa using h1 rfl))
theorem flows_spec (G : GH) (w0 : World) (hG : Hold G w0) (l : List ItemD) (v : Value) (id t : Int) (body note : Bool) (hv : RepV G (.sl 11 (l.map ItemD.dat)) v) (hz : zItems l ≤ 4294967296) (ht0 : 0 ≤ t) (ht1 : t + zItems l ≤ 4294967296) :
    Calls Tryz.prog 160 #[vi id, v, .agg #[.bool body, .bool note, vi t]] w0 (Ret w0 G fun u G' => ∃ ba bl bp, u = .func (.func 203) #[] #[.pointer (some ⟨ba, 0, none⟩), .pointer (some ⟨bl, 0, none⟩), .pointer (some ⟨bp, 0, none⟩)] ∧ Iter Tryz.prog G' u ((⟨id, l, body, note, t⟩ :: wItems note t l).map flP)) := by
  obtain ⟨A, c, rfl, hc1, hc2, hg⟩ := hv.slice; refine enter (N := 8) (T := [(0, _), (1, _), (2, _)]) (F := fun k => k < w0.heap.size) (L := []) Tryz.func160 rfl Tryz.ntmps160 rfl rfl hG (fun _ h => h) (fun _ h => by cases h) (fun _ h => by cases h) (fun _ h => by cases h) List.Pairwise.nil ?_; intro a H; refine c_seqR (fun _ hK1 => ?_); refine s_box (cs := [_]) H wn rfl rfl rfl ?_; clear H; intro b3 a w hb3 H; refine s_box (cs := [_]) H wn rfl rfl rfl ?_; clear H; intro b4 a w hb4 H; refine s_box (cs := [_, _, _]) H wn rfl rfl rfl ?_; clear H; intro b5 a w hb5 H; refine s_assign H wn rfl rfl ?_; clear H; intro a H; refine hK1 _ _ ?_; clear hK1; refine c_seqR (fun _ hK2 => ?_); refine s_makeFunc H wn rfl rfl ?_; clear H; intro a H; refine s_assign H wn rfl rfl ?_; clear H; intro a H; refine hK2 _ _ ?_; clear hK2; refine c_ret ?_; obtain ⟨G2, hm2, hb5, H⟩ := H.giveBox; obtain ⟨G3, hm3, hb4, H⟩ := H.giveBox; obtain ⟨G4, hm4, hb3, H⟩ := H.giveBox; refine (leave1 H Tryz.results160 (.cons (rv_tmp H rfl) .nil) ?_).1; exact H.hp.ret ⟨b3, b4, b5, rfl, flows1_iter (by unfold gcell; rw [hb3]; rfl) (gcell_mono hm4 (by unfold gcell; rw [hb4]; rfl)) (hm4 _ _ (hm3 _ _ hb5)) (hv.mono fun b o h => hm4 _ _ (hm3 _ _ (hm2 _ _ h))) hz ht0 ht1⟩
theorem of_spec (G : GH) (w0 : World) (hG : Hold G w0) (D : DocV) (l : List ItemD) (hv : RepV G (.sl 11 (l.map ItemD.dat)) (sl3 D.f)) (hz : zItems l ≤ 4294967296) :
    Calls Tryz.prog 81 #[D.val] w0 (Ret w0 G fun u G' => ∃ ba bl bp, u = .func (.func 203) #[] #[.pointer (some ⟨ba, 0, none⟩), .pointer (some ⟨bl, 0, none⟩), .pointer (some ⟨bp, 0, none⟩)] ∧ Iter Tryz.prog G' u ((flowsD l).map flP)) := by
  refine enter (N := 7) (T := [(0, _)]) (F := fun k => k < w0.heap.size) (L := []) Tryz.func81 rfl Tryz.ntmps81 rfl rfl hG (fun _ h => h) (fun _ h => by cases h) (fun _ h => by cases h) (fun _ h => by cases h) List.Pairwise.nil ?_; intro a H; refine c_seqR (fun _ hK1 => ?_); refine s_box (cs := [_, _, _, _, _, _, _, _, _, _, _]) H wn rfl rfl rfl ?_; clear H; intro b1 a w hb1 H; refine s_assign H wn rfl rfl ?_; clear H; intro a H; refine hK1 _ _ ?_; clear hK1; refine c_seqR (fun _ hK2 => ?_); refine s_field fd50_0doc H wn rfl rfl ?_; clear H; intro a H; refine s_load ty32run H wn rfl (H.hp.ocell 0 rfl rfl) rfl ?_; clear H; intro a H; refine s_build sr136doc [_, _, _] H wn rfl rfl rfl rfl ?_; clear H; intro a H; refine s_call en160doc H wn rfl (flows_spec _ _ H.hp.ro l _ 0 0 true false hv hz (by omega) (by omega)) rfl ?_; clear H; rintro v6 G6 a w ⟨ba, bl, bp, rfl, hit⟩ hm6 H; refine s_assign H wn rfl rfl ?_; clear H; intro a H; refine hK2 _ _ ?_; clear hK2; refine c_ret ?_; refine (leave1 H Tryz.results81 (.cons (rv_tmp H rfl) .nil) ?_).1; exact H.hp.ret ⟨ba, bl, bp, rfl, hit⟩
end
section
open Go.RowKit
theorem ty50dq : Ty Tryz.prog 50 11 232 [.slice none 0 0, .slice none 0 0, .int .i64 0, .int .i64 0, .slice none 0 0, .slice none 0 0, .slice none 0 0, .slice none 0 0, .slice none 0 0, .slice none 0 0, .slice none 0 0] true := ⟨by kernel_rfl, by kernel_rfl⟩
theorem en81dq : ∀ args w, (callFunc 81 args).run Tryz.prog w = .ok (.enter 81 args) w := enters Tryz.func81 rfl (by kernel_rfl)
theorem ty166dq : Ty Tryz.prog 166 4 40 [.slice none 0 0, .bool false, .bool false, .int .i64 0] true := ⟨by kernel_rfl, by kernel_rfl⟩
theorem fd166_0dq : Fld Tryz.prog 166 0 0 := ⟨by kernel_rfl⟩
mutual
theorem wItem_sz {note : Bool} {t : Int} {f : FlowD} : ∀ {x : ItemD}, f ∈ wItem note t x → zItems f.items < szR x.dat
  | .mk k c i tx h fl r, hf => by
    have h4 := zItem_eq (.mk k c i tx h fl r)
    simp only [ItemD.text, ItemD.head, ItemD.flow, ItemD.rows] at h4
    rw [wItem] at hf
    split at hf
    · rcases List.mem_cons.1 hf with rfl | hf
      · show zItems fl < _; omega
      have := wItems_sz hf; omega
    split at hf
    · have := wRows_sz hf; omega
    cases hf
theorem wItems_sz {note : Bool} {t : Int} {f : FlowD} : ∀ {l : List ItemD}, f ∈ wItems note t l → zItems f.items ≤ zItems l
  | [], hf => by simp [wItems] at hf
  | x :: l, hf => by
    rw [wItems] at hf
    simp only [zItems, List.map_cons, szRs]
    rcases List.mem_append.1 hf with hf | hf
    · have := wItem_sz hf; simp only [zItems] at this; omega
    have := wItems_sz hf; simp only [zItems] at this; omega
theorem wRows_sz {note : Bool} {t : Int} {f : FlowD} : ∀ {l : List RowD}, f ∈ wRows note t l → zItems f.items ≤ zRows l
  | [], hf => by simp [wRows] at hf
  | x :: l, hf => by
    rw [wRows] at hf
    simp only [zRows, List.map_cons, szRs]
    rcases List.mem_append.1 hf with hf | hf
    · have := wRow_sz hf; simp only [zItems] at *; omega
    have := wRows_sz hf; simp only [zItems, zRows] at *; omega
theorem wRow_sz {note : Bool} {t : Int} {f : FlowD} : ∀ {x : RowD}, f ∈ wRow note t x → zItems f.items ≤ szR x.dat
  | .mk h cs, hf => by
    have h4 := zRow_eq (.mk h cs)
    simp only [RowD.head, RowD.cells] at h4
    rw [wRow] at hf; have := wCells_sz hf; omega
theorem wCells_sz {note : Bool} {t : Int} {f : FlowD} : ∀ {l : List CellD}, f ∈ wCells note t l → zItems f.items ≤ zCells l
  | [], hf => by simp [wCells] at hf
  | x :: l, hf => by
    rw [wCells] at hf
    simp only [zCells, List.map_cons, szRs]
    rcases List.mem_append.1 hf with hf | hf
    · have := wCell_sz hf; simp only [zItems] at *; omega
    have := wCells_sz hf; simp only [zItems, zCells] at *; omega
theorem wCell_sz {note : Bool} {t : Int} {f : FlowD} : ∀ {x : CellD}, f ∈ wCell note t x → zItems f.items ≤ szR x.dat
  | .mk i h fl, hf => by
    have h4 := zCell_eq (.mk i h fl)
    simp only [CellD.head, CellD.flow] at h4
    rw [wCell] at hf
    rcases List.mem_cons.1 hf with rfl | hf
    · show zItems fl ≤ _; omega
    have := wItems_sz hf; omega
end
theorem flowsD_sz {f : FlowD} {l : List ItemD} (h : f ∈ flowsD l) : zItems f.items ≤ zItems l := by
  rcases List.mem_cons.1 h with rfl | h
  · exact Nat.le_refl _
  exact wItems_sz h
/-- The flow with an id. -/
def flowOf (l : List ItemD) (id : Int) : Option (List ItemD) := ((flowsD l).find? fun f => decide (f.id = id)).map FlowD.items
theorem find_next {α : Type} {p : α → Bool} {A : List α} {k : Nat} (hk : k < A.length) (h : (A.take k).find? p = none) (hp : p A[k] = false) : (A.take (k + 1)).find? p = none := by
  rw [List.take_succ_eq_append_getElem hk, List.find?_append, h]
  simp [hp]
theorem find_stop {α : Type} {p : α → Bool} {A : List α} {k : Nat} (hk : k < A.length) (h : (A.take k).find? p = none) (hp : p A[k] = true) : A.find? p = some A[k] := by
  have e : A.find? p = (A.take k ++ A.drop k).find? p := by rw [List.take_append_drop]
  rw [e, List.find?_append, h, List.drop_eq_getElem_cons hk, List.find?_cons, hp]
  rfl
theorem find_done {α : Type} {p : α → Bool} {A : List α} (h : (A.take A.length).find? p = none) : A.find? p = none := by rwa [List.take_length] at h
theorem fl_at {A : List FlowD} {k : Nat} {args : List Value} {g : GH} (h : AtAP (A.map flP) k args g) : ∃ (hk : k < A.length) (a : Option Addr) (n c : Nat), args = [vi A[k].id, .agg #[.slice a n c, .bool A[k].body, .bool A[k].note, vi A[k].tables]] ∧ RepV g (.sl 11 (A[k].items.map ItemD.dat)) (.slice a n c) := by
  obtain ⟨p, hp, hargs⟩ := h; rw [List.getElem?_map] at hp; obtain ⟨q, hq, rfl⟩ := Option.map_eq_some_iff.1 hp; obtain ⟨hk, rfl⟩ := List.getElem?_eq_some_iff.1 hq; obtain ⟨v, h1, h2⟩ := hargs; obtain ⟨a, n, c, rfl⟩ := h2.form; exact ⟨hk, a, n, c, h1, h2⟩
theorem flow_spec (G : GH) (w0 : World) (hG : Hold G w0) (D : DocV) (l : List ItemD) (id : Int) (hv : RepV G (.sl 11 (l.map ItemD.dat)) (sl3 D.f)) (hz : zItems l ≤ 4294967296) :
    Calls Tryz.prog 29 #[D.val, vi id] w0 (Ret w0 G fun u G' => ∃ v, u = .tuple #[v, .bool (flowOf l id).isSome] ∧ RepV G' (.sl 11 (((flowOf l id).getD []).map ItemD.dat)) v) := by
  refine enter (N := 18) (T := [(0, _), (1, _)]) (F := fun k => k < w0.heap.size) (L := []) Tryz.func29 rfl Tryz.ntmps29 rfl rfl hG (fun _ h => h) (fun _ h => by cases h) (fun _ h => by cases h) (fun _ h => by cases h) List.Pairwise.nil ?_; intro a H; refine c_seqR (fun _ hK1 => ?_); refine s_box (cs := [_, _, _, _, _, _, _, _, _, _, _]) H wn rfl rfl rfl ?_; clear H; intro b2 a w hb2 H; refine s_box (cs := [_]) H wn rfl rfl rfl ?_; clear H; intro b3 a w hb3 H; refine s_alloc ty32run H wn rfl ?_; clear H; intro b4 a w hb4 H; refine s_alloc ty4doc H wn rfl ?_; clear H; intro b5 a w hb5 H; refine hK1 _ _ ?_; clear hK1; refine c_seq (fun _ hK2 => ?_); refine c_seqR (fun _ hK3 => ?_); refine s_loada ty50dq (cs := [_, _, _, _, _, _, _, _, _, _, _]) H wn rfl rfl (H.hp.ocells 3 rfl rfl) rfl ?_; clear H; intro a H; refine s_call en81dq H wn rfl (of_spec _ _ H.hp.ro D l hv hz) rfl ?_; clear H; rintro v9 G9 a w ⟨ba, bl, bp, rfl, hit⟩ hm9 H; refine hK3 _ _ ?_; clear hK3; refine c_block ?_; skip; refine c_rangeJ (ι := Unit) (κ := Value) (Lc := [(_, _), (_, _)]) (fun (k : Nat) (gh : Unit) => [(b4, .cells #[.slice none 0 0] 32 (0, 0)), (b5, .cells #[.bool false] 4 (0, 0))]) (fun (k : Nat) (gh : Unit) => []) (fun (k : Nat) (gh : Unit) (g : GH) => ((flowsD l).take k).find? (fun f => decide (f.id = id)) = none) (fun (gx : Value) => Code.ret) (fun (gx : Value) => [(b4, .cells #[gx] 32 (0, 0)), (b5, .cells #[.bool true] 4 (0, 0))]) (fun (gx : Value) => []) (fun (gx : Value) (g : GH) => ∃ f, flowOf l id = some f ∧ RepV g (.sl 11 (f.map ItemD.dat)) gx) (()) (by exact H.pickT (Pl := [_, _, _, _]) (Pl' := [_, _, _, _]) [2, 3, 1, 0] (by decide) rfl) rfl en203doc (hit) (fun _ _ h => h) rfl (fun k args g h => by obtain ⟨_, _, _, _, rfl, _⟩ := fl_at h; rfl) (fun _ _ _ _ _ h => h) (fun x G G' hm h => let ⟨f, h1, h2⟩ := h; ⟨f, h1, h2.mono hm⟩) (rfl) ?_ ?_ ?_
  · clear H; intro l2 rdy bsy bk k args gh G2 w2 F2 B2 a hk2 hm2 hI hbeg2 hnext2 hstop2 H; obtain ⟨hk, vA, vn, vc, rfl, hrep⟩ := fl_at hk2; dsimp only [asg, List.cons_append, List.nil_append] at H; refine c_seqR (fun _ hK4 => ?_); refine s_assign H wn rfl rfl ?_; clear H; intro a H; refine hK4 _ _ ?_; clear hK4; refine c_region ?_; refine s_alloc ty166dq H wn rfl ?_; clear H; intro b7 a w hb7 H; refine s_store ty166dq 0 (vs := [_, _, _, _]) _ H wn rfl rfl rfl rfl rfl rfl rfl rfl ?_; clear H; intro w H; dsimp only [List.set, setRow] at H; refine wl_nil ?_; refine hbeg2 _ _ _ _ _ _ (by exact H.pickT (Pl := [_, _, _, _, _, _]) (Pl' := [_, _, _, _, _, _]) [1, 0, 2, 3, 4, 5] (by decide) rfl) ?_; clear H; intro w H; refine c_block ?_; refine c_seqR (fun _ hK5 => ?_); refine s_move H wn rfl rfl ?_; clear H; intro a H; refine s_load ty3run H wn rfl (H.hp.ocell 2 rfl rfl) rfl ?_; clear H; intro a H; refine s_cmp H wn rfl rfl rfl rfl ?_; clear H; intro a H; refine hK5 _ _ ?_; clear hK5; refine c_cond H rfl ?_ ?_
    · intro h14
      try have p14 := of_decide_eq_true h14
      refine c_seqR (fun _ hK6 => ?_); refine s_field fd166_0dq H wn rfl rfl ?_; clear H; intro a H; refine s_load ty32run H wn rfl (H.hp.ocell 1 rfl rfl) rfl ?_; clear H; intro a H; refine s_call en69run H wn rfl (clone_spec _ _ H.hp.ro _ _ hrep (by have := flowsD_sz (List.getElem_mem hk); omega)) rfl ?_; clear H; rintro v17 G17 a w hp17 hm17 H; obtain ⟨A17, n17, c17, rfl⟩ := hp17.form; refine s_store ty32run 4 (vs := [_]) _ H wn rfl rfl rfl rfl rfl rfl rfl rfl ?_; clear H; intro w H; dsimp only [List.set, setRow] at H; refine s_store ty4doc 5 (vs := [_]) _ H wn rfl rfl rfl rfl rfl rfl rfl rfl ?_; clear H; intro w H; dsimp only [List.set, setRow] at H; refine hK6 _ _ ?_; clear hK6; refine c_ret ?_; refine (hstop2 (.slice A17 n17 c17) _ _ _ _ _ (by exact H.pickT (Pl := [_, _, _, _, _, _]) (Pl' := [_, _, _, _, _]) [0, 2, 3, 4, 5] (by decide) rfl) ?_).1 rfl; exact ⟨_, by unfold flowOf; rw [find_stop hk hI h14]; rfl, hp17⟩
    intro h14
    try have p14 := of_decide_eq_false h14
    refine c_skip ?_; refine hnext2 (()) _ _ _ _ _ (by exact H.pickT (Pl := [_, _, _, _, _, _]) (Pl' := [_, _, _, _, _]) [0, 2, 3, 4, 5] (by decide) rfl) ?_; exact find_next hk hI h14
  · clear H; intro Dk2 gh Gd2 a w hm2 hI H; dsimp only [List.cons_append, List.nil_append, List.append_nil] at H; refine hK2 _ _ ?_; clear hK2; refine c_seqR (fun _ hK7 => ?_); refine s_store ty32run 3 (vs := [_]) _ H wn rfl rfl rfl rfl rfl rfl rfl rfl ?_; clear H; intro w H; dsimp only [List.set, setRow] at H; refine s_store ty4doc 4 (vs := [_]) _ H wn rfl rfl rfl rfl rfl rfl rfl rfl ?_; clear H; intro w H; dsimp only [List.set, setRow] at H; refine hK7 _ _ ?_; clear hK7; refine c_ret ?_; refine (leaveM H 0 rfl ?_).1; clear H; intro a w H; dsimp only [List.eraseIdx_cons_succ, List.eraseIdx_cons_zero] at H; refine (leaveT H Tryz.results29 (.cons (rv_cell ty32run H rfl (H.hp.ocell 2 rfl rfl)) (.cons (rv_cell ty4doc H rfl (H.hp.ocell 3 rfl rfl)) .nil)) ?_).1; exact H.hp.ret ⟨_, by unfold flowOf; rw [find_done (by simpa using hI)]; rfl, by unfold flowOf; rw [find_done (by simpa using hI)]; exact RepV.nil_ rfl (by decide)⟩
  clear H; intro Dk2 gx Gd2 a w hm2 hI H; obtain ⟨x, hgh⟩ : ∃ x, x = gx := ⟨_, rfl⟩; subst hgh; dsimp only [List.cons_append, List.nil_append, List.append_nil] at H; obtain ⟨f, hf, hrep⟩ := hI; obtain ⟨xA, xn, xc, rfl⟩ := hrep.form; refine c_ret ?_; refine (leaveM H 0 rfl ?_).1; clear H; intro a w H; dsimp only [List.eraseIdx_cons_succ, List.eraseIdx_cons_zero] at H; refine (leaveT H Tryz.results29 (.cons (rv_cell ty32run H rfl (H.hp.ocell 2 rfl rfl)) (.cons (rv_cell ty4doc H rfl (H.hp.ocell 3 rfl rfl)) .nil)) ?_).1; exact H.hp.ret ⟨_, by rw [hf]; rfl, by rw [hf]; exact hrep⟩
end
section
open Go.RowKit
def getI (xs : Array Value) (o : Nat) : Option Int := match xs[o]? with | some (.int .i64 n) => some n | _ => none
def isI (u : Option TypeDesc) : Bool := match u with | some (.int .i64) => true | _ => false
structure EqI (P : Program) (t : TypeId) (offs : List Nat) : Prop where
  und : P.underlying t = some (.struct (P.fieldsOf t))
  held : P.stoodInHeld t = false
  guard : P.eqGuardType P.depth t = false
  flds : (P.fieldsOf t).toList.map (·.offset) = offs
  ok : (P.fieldsOf t).toList.all (fun f => decide (f.name ≠ "_") && P.plainKey f.type && isI (P.underlying f.type)) = true
theorem run_eqFields_int {P : Program} {w : World} {d : Nat} {xs ys : Array Value} : ∀ fs : List Field, fs.all (fun f => decide (f.name ≠ "_") && P.plainKey f.type && isI (P.underlying f.type)) = true →
    (fs.map (·.offset)).all (fun o => (getI xs o).isSome && (getI ys o).isSome) = true → (Op.eqFields (d + 1) xs ys fs).run P w = .ok ((fs.map (·.offset)).all fun o => getI xs o == getI ys o) w
  | [], _, _ => by simp [Op.eqFields]
  | f :: fs, h1, h2 => by
    simp only [List.all_cons, Bool.and_eq_true, decide_eq_true_eq, List.map_cons] at h1 h2
    obtain ⟨⟨⟨hn, hp⟩, hi⟩, h1⟩ := h1
    obtain ⟨⟨hx, hy⟩, h2⟩ := h2
    have ih := run_eqFields_int (w := w) (d := d) fs (by simpa using h1) h2
    unfold isI at hi
    split at hi
    · rename_i hu
      unfold getI at hx hy
      split at hx
      · rename_i m hxm
        split at hy
        · rename_i m2 hym
          have e1 : getI xs f.offset = some m := by unfold getI; rw [hxm]
          have e2 : getI ys f.offset = some m2 := by unfold getI; rw [hym]
          simp only [Op.eqFields, hn, ne_eq, not_false_eq_true, if_true, Sem.run_bind, run_part_plain w hp hxm, run_part_plain w hp hym, Result.andThen_ok, run_equalIn_int w d f.type .i64 .i64 m m2 hu, List.map_cons, List.all_cons, e1, e2]
          by_cases e : m = m2
          · subst e; simp [ih, List.all_map]
          · simp [e]
        · simp at hy
      · simp at hx
    · simp at hi
/-- The same for ints and bools: what a field holds. -/
def getV (xs : Array Value) (o : Nat × Bool) : Option (Int × Bool) := match xs[o.1]?, o.2 with | some (.int .i64 n), false => some (n, false) | some (.bool b), true => some (0, b) | _, _ => none
def isV (u : Option TypeDesc) (b : Bool) : Bool := match u, b with | some (.int .i64), false => true | some .bool, true => true | _, _ => false
structure EqS (P : Program) (t : TypeId) (offs : List (Nat × Bool)) : Prop where
  und : P.underlying t = some (.struct (P.fieldsOf t))
  held : P.stoodInHeld t = false
  guard : P.eqGuardType P.depth t = false
  flds : (P.fieldsOf t).toList.map (fun f => (f.offset, isV (P.underlying f.type) true)) = offs
  ok : (P.fieldsOf t).toList.all (fun f => decide (f.name ≠ "_") && P.plainKey f.type && isV (P.underlying f.type) (isV (P.underlying f.type) true)) = true
theorem run_eqFields_val {P : Program} {w : World} {d : Nat} {xs ys : Array Value} : ∀ fs : List Field, fs.all (fun f => decide (f.name ≠ "_") && P.plainKey f.type && isV (P.underlying f.type) (isV (P.underlying f.type) true)) = true →
    (fs.map (fun f => (f.offset, isV (P.underlying f.type) true))).all (fun o => (getV xs o).isSome && (getV ys o).isSome) = true → (Op.eqFields (d + 1) xs ys fs).run P w = .ok ((fs.map (fun f => (f.offset, isV (P.underlying f.type) true))).all fun o => getV xs o == getV ys o) w
  | [], _, _ => by simp [Op.eqFields]
  | f :: fs, h1, h2 => by
    simp only [List.all_cons, Bool.and_eq_true, decide_eq_true_eq, List.map_cons] at h1 h2
    obtain ⟨⟨⟨hn, hp⟩, hi⟩, h1⟩ := h1
    obtain ⟨⟨hx, hy⟩, h2⟩ := h2
    have ih := run_eqFields_val (w := w) (d := d) fs (by simpa using h1) h2
    obtain ⟨kb, hkb⟩ : ∃ kb, kb = isV (P.underlying f.type) true := ⟨_, rfl⟩
    rw [← hkb] at hi hx hy
    cases kb with
    | false =>
      have hu : P.underlying f.type = some (.int .i64) := by clear hkb ih h1 h2 hx hy; unfold isV at hi; split at hi <;> simp_all
      obtain ⟨m, hxm⟩ : ∃ m, xs[f.offset]? = some (.int .i64 m) := by clear hkb ih h1 h2 hi hy; unfold getV at hx; split at hx <;> simp_all
      obtain ⟨m2, hym⟩ : ∃ m, ys[f.offset]? = some (.int .i64 m) := by clear hkb ih h1 h2 hi hx; unfold getV at hy; split at hy <;> simp_all
      have e1 : getV xs (f.offset, false) = some (m, false) := by unfold getV; rw [hxm]
      have e2 : getV ys (f.offset, false) = some (m2, false) := by unfold getV; rw [hym]
      simp only [Op.eqFields, hn, ne_eq, not_false_eq_true, if_true, Sem.run_bind, run_part_plain w hp hxm, run_part_plain w hp hym, Result.andThen_ok, run_equalIn_int w d f.type .i64 .i64 m m2 hu, List.map_cons, List.all_cons, ← hkb, e1, e2]
      by_cases e : m = m2
      · subst e; simp [ih, List.all_map]
      · simp [e]
    | true =>
      have hu : P.underlying f.type = some .bool := by clear hkb ih h1 h2 hx hy; unfold isV at hi; split at hi <;> simp_all
      obtain ⟨m, hxm⟩ : ∃ m, xs[f.offset]? = some (.bool m) := by clear hkb ih h1 h2 hi hy; unfold getV at hx; split at hx <;> simp_all
      obtain ⟨m2, hym⟩ : ∃ m, ys[f.offset]? = some (.bool m) := by clear hkb ih h1 h2 hi hx; unfold getV at hy; split at hy <;> simp_all
      have e1 : getV xs (f.offset, true) = some (0, m) := by unfold getV; rw [hxm]
      have e2 : getV ys (f.offset, true) = some (0, m2) := by unfold getV; rw [hym]
      simp only [Op.eqFields, hn, ne_eq, not_false_eq_true, if_true, Sem.run_bind, run_part_plain w hp hxm, run_part_plain w hp hym, Result.andThen_ok, run_equalIn_bool' w d f.type m m2 hu, List.map_cons, List.all_cons, ← hkb, e1, e2]
      by_cases e : m = m2
      · subst e; simp [ih, List.all_map]
      · simp [e]
section
variable {N : Nat} {D : List Deferred} {w0 : World} {F : Nat → Prop} {G0 G : GH} {L : List (Nat × Obj)} {T : List (Nat × Value)}
variable {r : Option Nat} {P : Program} {ops : Array Oper} {Q : Exit → Act → World → Prop} {rest : List Oper} {a : Act} {w : World}
variable {d : Nat} {ty : TypeId} {pos : String} {aft : Array Edge} {g : Option (Nat × Bool)}
theorem s_eqagg {t yt : TypeId} {offs : List Nat} (he : EqI P t offs) {x y : Operand} {xs ys : Array Value} (H : St N D w0 F G0 G L T a w) (hw : Region.wanted ⟨some d, .binOp .eql t x y yt, ty, pos, aft, g⟩ (yielded ops a.tmps) = true) (hx : ev T x = some (.agg xs)) (hy : ev T y = some (.agg ys))
    (hi : offs.all (fun o => (getI xs o).isSome && (getI ys o).isSome) = true) (hd : Nat.blt d N = true)
    (k : ∀ a', St N D w0 F G0 G L ((d, .bool (offs.all fun o => getI xs o == getI ys o)) :: T) a' w → WL r P ops Q rest a' w) : WL r P ops Q (⟨some d, .binOp .eql t x y yt, ty, pos, aft, g⟩ :: rest) a w := by
  refine wl_value (v := .bool (offs.all fun o => getI xs o == getI ys o)) (w' := w) hw rfl ?_ (k _ (H.put hd _ H.hp))
  have h1 := run_eqFields_int (P := P) (w := w) (d := 9998) (xs := xs) (ys := ys) _ he.ok (by rw [he.flds]; exact hi)
  rw [he.flds] at h1
  simp only [execOp, H.ev hx, H.ev hy, Sem.run_bind, run_eqGuard_agg w .eql t x y xs ys he.guard, Result.andThen_ok, run_eql_struct, run_equalIn_struct w 9999 t xs ys he.und he.held, h1]
  rfl
theorem s_eqstr {t yt : TypeId} {x y : Operand} {p q : ByteArray} (H : St N D w0 F G0 G L T a w) (hw : Region.wanted ⟨some d, .binOp .eql t x y yt, ty, pos, aft, g⟩ (yielded ops a.tmps) = true) (hx : ev T x = some (.string p)) (hy : ev T y = some (.string q)) (hd : Nat.blt d N = true)
    (k : ∀ a', St N D w0 F G0 G L ((d, .bool (p.toList == q.toList)) :: T) a' w → WL r P ops Q rest a' w) : WL r P ops Q (⟨some d, .binOp .eql t x y yt, ty, pos, aft, g⟩ :: rest) a w := by
  refine wl_value (v := .bool (p.toList == q.toList)) (w' := w) hw rfl ?_ (k _ (H.put hd _ H.hp))
  simp [execOp, H.ev hx, H.ev hy, Sem.run_bind, eqGuard, binOp, Op.stringOp]
theorem s_eqs {op : BinOp} {t yt : TypeId} {offs : List (Nat × Bool)} (ho : op = .eql ∨ op = .neq) (he : EqS P t offs) {x y : Operand} {xs ys : Array Value} (H : St N D w0 F G0 G L T a w) (hw : Region.wanted ⟨some d, .binOp op t x y yt, ty, pos, aft, g⟩ (yielded ops a.tmps) = true) (hx : ev T x = some (.agg xs)) (hy : ev T y = some (.agg ys))
    (hi : offs.all (fun o => (getV xs o).isSome && (getV ys o).isSome) = true) (hd : Nat.blt d N = true)
    (k : ∀ a', St N D w0 F G0 G L ((d, .bool (if op = .eql then offs.all fun o => getV xs o == getV ys o else !(offs.all fun o => getV xs o == getV ys o))) :: T) a' w → WL r P ops Q rest a' w) : WL r P ops Q (⟨some d, .binOp op t x y yt, ty, pos, aft, g⟩ :: rest) a w := by
  have h1 := run_eqFields_val (P := P) (w := w) (d := 9998) (xs := xs) (ys := ys) _ he.ok (by rw [he.flds]; exact hi)
  rw [he.flds] at h1
  rcases ho with rfl | rfl
  · refine wl_value (v := _) (w' := w) hw rfl ?_ (k _ (H.put hd _ H.hp))
    simp only [execOp, H.ev hx, H.ev hy, Sem.run_bind, run_eqGuard_agg w .eql t x y xs ys he.guard, Result.andThen_ok, run_eql_struct, run_equalIn_struct w 9999 t xs ys he.und he.held, h1]
    rfl
  · refine wl_value (v := _) (w' := w) hw rfl ?_ (k _ (H.put hd _ H.hp))
    simp only [execOp, H.ev hx, H.ev hy, Sem.run_bind, run_eqGuard_agg w .neq t x y xs ys he.guard, Result.andThen_ok, run_neq_struct, run_equalIn_struct w 9999 t xs ys he.und he.held, h1]
    rfl
end
end
section
open Go.RowKit
theorem idx_next {α : Type} {p : α → Bool} {A : List α} {k : Nat} (hk : k < A.length) (h : (A.take k).findIdx? p = none) (hp : p A[k] = false) : (A.take (k + 1)).findIdx? p = none := by
  rw [List.findIdx?_eq_none_iff] at h ⊢; rw [List.take_succ_eq_append_getElem hk]; intro x hx
  rcases List.mem_append.1 hx with hx | hx
  · exact h x hx
  rw [List.mem_singleton.1 hx]; exact hp
theorem idx_stop {α : Type} {p : α → Bool} {A : List α} {k : Nat} (hk : k < A.length) (h : (A.take k).findIdx? p = none) (hp : p A[k] = true) : A.findIdx? p = some k := by
  have e : A.findIdx? p = (A.take k ++ A.drop k).findIdx? p := by rw [List.take_append_drop]
  rw [e, List.findIdx?_append, h, List.drop_eq_getElem_cons hk, List.findIdx?_cons, hp]
  simp; omega
theorem idx_done {α : Type} {p : α → Bool} {A : List α} (h : (A.take A.length).findIdx? p = none) : A.findIdx? p = none := by rwa [List.take_length] at h
end
section
open Go.RowKit
theorem en8par : ∀ args w, (callFunc 8 args).run Tryz.prog w = .ok (.enter 8 args) w := enters Tryz.func8 rfl (by kernel_rfl)
theorem sr91par : Srt Tryz.prog 91 [(0, 1), (1, 1), (2, 1), (3, 1)] [.int .i64 0, .int .i64 0, .int .i64 0, .bool false] := ⟨by kernel_rfl, by kernel_rfl⟩
theorem ty91par : Ty Tryz.prog 91 4 32 [.int .i64 0, .int .i64 0, .int .i64 0, .bool false] true := ⟨by kernel_rfl, by kernel_rfl⟩
theorem fd91_0par : Fld Tryz.prog 91 0 0 := ⟨by kernel_rfl⟩
theorem ty258par : Ty Tryz.prog 258 1 8 [.nilFunc] false := ⟨by kernel_rfl, by kernel_rfl⟩
theorem en99par : ∀ args w, (callFunc 99 args).run Tryz.prog w = .ok (.enter 99 args) w := enters Tryz.func99 rfl (by kernel_rfl)
theorem en170par : ∀ args w, (callFunc 170 args).run Tryz.prog w = .ok (.enter 170 args) w := enters Tryz.func170 rfl (by kernel_rfl)
theorem en169par : ∀ args w, (callFunc 169 args).run Tryz.prog w = .ok (.enter 169 args) w := enters Tryz.func169 rfl (by kernel_rfl)
theorem size_spec (G : GH) (w0 : World) (hG : Hold G w0) (x : ItemD) (cs : List Value) (hv : RepRow G x.dat cs) (hz : szR x.dat ≤ 4294967290) :
    Calls Tryz.prog 99 #[.agg cs.toArray] w0 (Ret w0 G fun u G' => u = vi (n1 x)) := by
  obtain ⟨pA, pn, pc, dA, dn, dc, yA, yn, yc, fA, fn, fc, rA, rn, rc, rfl, hh, hf, hr⟩ := hv.item; refine enter (N := 12) (T := [(0, _)]) (F := fun k => k < w0.heap.size) (L := []) Tryz.func99 rfl Tryz.ntmps99 rfl rfl hG (fun _ h => h) (fun _ h => by cases h) (fun _ h => by cases h) (fun _ h => by cases h) List.Pairwise.nil ?_; intro a H; refine c_seqR (fun _ hK1 => ?_); refine s_box (cs := [_, _, _, _, _, _, _, _, _, _, _]) H wn rfl rfl rfl ?_; clear H; intro b1 a w hb1 H; refine s_assign H wn rfl rfl ?_; clear H; intro a H; refine hK1 _ _ ?_; clear hK1; refine c_seqR (fun _ hK2 => ?_); refine s_loada ty35run (cs := [_, _, _, _, _, _, _, _, _, _, _]) H wn rfl rfl (H.hp.ocells 0 rfl rfl) rfl ?_; clear H; intro a H; refine s_buildSlice un32run ty35run [_, _, _, _, _, _, _, _, _, _, _] [_, _, _, _, _, _, _, _, _, _, _] H wn rfl rfl rfl rfl rfl (by intro i q h; match i, h with | 0, h => exact h | n + 1, h => simp at h) rfl rfl ?_; clear H; intro b7 a w hb7 H; obtain ⟨G7, hm7, hr7, H⟩ := H.giveOne (sz := 11) (d := x.dat) rfl hv; refine s_call en8par H wn rfl (len_spec _ _ H.hp.ro [x] _ hr7 (by simp only [zItems, List.map_cons, List.map_nil, szRs]; omega)) rfl ?_; clear H; rintro v8 G8 a w ⟨rfl, rfl⟩ hm8 H; rw [lenS_one] at H; refine s_move H wn rfl rfl ?_; clear H; intro a H; (iterate 2 refine s_extract H wn rfl rfl rfl ?_; clear H; intro a H); (iterate 2 refine s_assign H wn rfl rfl ?_; clear H; intro a H); refine hK2 _ _ ?_; clear hK2; refine c_seqR (fun _ hK3 => ?_); refine s_move H wn rfl rfl ?_; clear H; intro a H; refine s_assign H wn rfl rfl ?_; clear H; intro a H; refine hK3 _ _ ?_; clear hK3; refine c_ret ?_; refine (leave1 H Tryz.results99 (.cons (rv_tmp H rfl) .nil) ?_).1; exact H.hp.ret rfl
structure BlkD where
  kind : Int
  from_ : Int
  to : Int
  mark : Bool
theorem BlkD.eq_iff (a b : BlkD) : (a.kind = b.kind ∧ a.from_ = b.from_ ∧ a.to = b.to ∧ a.mark = b.mark) ↔ a = b := by
  cases a; cases b; simp
instance : DecidableEq BlkD := fun a b => decidable_of_iff _ (BlkD.eq_iff a b)
def restL (fr at_ : Int) (lo : Bool) : List BlkD := if fr = at_ then [] else [⟨if lo then 4 else 1, fr, at_, false⟩]
/-- The blocks of a flow from an item on. -/
def blkS : Int → Int → Bool → List ItemD → List BlkD
  | fr, at_, lo, [] => restL fr at_ lo
  | fr, at_, lo, x :: l =>
    if x.kind = 2 then ⟨1, fr, at_ + 1, true⟩ :: blkS (at_ + 1) (at_ + n1 x) true l
    else if x.kind = 7 ∨ x.kind = 3 then restL fr at_ lo ++ ⟨if x.kind = 3 then 3 else 2, at_, at_ + 1, false⟩ :: blkS (at_ + 1) (at_ + n1 x) true l
    else blkS fr (at_ + n1 x) (lo && (decide (x.kind = 8) || decide (n1 x = 0))) l
def bkP (a : BlkD) : AP := fun args _ => args = [.agg #[vi a.kind, vi a.from_, vi a.to, .bool a.mark]]
theorem clo46 {fv : Value} {Gi : GH} {xs : List AP} {J : Nat → GH → OL → Prop} {Jx : GH → OL → Prop} (hcb : Cback Tryz.prog fv Gi xs J Jx) {bf ba bl by_ : Nat} {fr at_ : Int} {lo : Bool} {G : GH} {L : OL} {w0 : World} {j : Nat} (hGi : ∀ b o, Gi b = some o → G b = some o) (hJ : J j G L)
    (hO : Owns G ((bf, .cells #[vi fr] 3 (0, 0)) :: (ba, .cells #[vi at_] 3 (0, 0)) :: (bl, .cells #[.bool lo] 4 (0, 0)) :: L) w0) (hy : gcell G by_ 0 = some fv) (hx : ∀ i a, (restL fr at_ lo)[i]? = some a → xs[j + i]? = some (bkP a)) :
    CallV Tryz.prog (.func (.func 170) #[] #[.pointer (some ⟨bf, 0, none⟩), .pointer (some ⟨ba, 0, none⟩), .pointer (some ⟨bl, 0, none⟩), .pointer (some ⟨by_, 0, none⟩)]) [] w0
      (RetL w0 G ((bf, .cells #[vi fr] 3 (0, 0)) :: (ba, .cells #[vi at_] 3 (0, 0)) :: (bl, .cells #[.bool lo] 4 (0, 0)) :: L) fun u G' L' => ∃ b fr' lo' Lu, u = .bool b ∧ L' = (bf, .cells #[vi fr'] 3 (0, 0)) :: (ba, .cells #[vi at_] 3 (0, 0)) :: (bl, .cells #[.bool lo'] 4 (0, 0)) :: Lu ∧ (b = true → J (j + (restL fr at_ lo).length) G' Lu) ∧ (b = false → Jx G' Lu)) := by
  refine callV_func (caps := [.pointer (some ⟨bf, 0, none⟩), .pointer (some ⟨ba, 0, none⟩), .pointer (some ⟨bl, 0, none⟩), .pointer (some ⟨by_, 0, none⟩)]) (args := []) en170par ?_; refine enterL (N := 18) (T := [(0, _), (1, _), (2, _), (3, _)]) Tryz.func170 rfl Tryz.ntmps170 rfl rfl hO ?_; intro a H; refine c_seqR (fun _ hK1 => ?_); refine s_assign H wn rfl rfl ?_; clear H; intro a H; refine hK1 _ _ ?_; clear hK1; refine c_seq (fun _ hK2 => ?_); refine c_seqR (fun _ hK3 => ?_); refine s_load ty3run H wn rfl (H.hp.ocell 0 rfl rfl) rfl ?_; clear H; intro a H; refine s_load ty3run H wn rfl (H.hp.ocell 1 rfl rfl) rfl ?_; clear H; intro a H; refine s_cmp H wn rfl rfl rfl rfl ?_; clear H; intro a H; refine hK3 _ _ ?_; clear hK3; refine c_cond H rfl ?_ ?_
  · intro h8
    try have p8 := of_decide_eq_true h8
    refine c_seqR (fun _ hK4 => ?_); refine s_assign H wn rfl rfl ?_; clear H; intro a H; refine hK4 _ _ ?_; clear hK4; refine c_ret ?_; refine (leave1 H Tryz.results170 (.cons (rv_tmp H rfl) .nil) ?_).1; exact H.hp.retL ⟨true, _, _, L, rfl, rfl, fun _ => (by rw [restL, if_pos p8]; exact hJ), fun e => (by cases e)⟩
  intro h8
  try have p8 := of_decide_eq_false h8
  refine c_skip ?_; refine hK2 _ _ ?_; clear hK2; refine c_seqR (fun _ hK5 => ?_); refine s_load ty3run H wn rfl (H.hp.ocell 0 rfl rfl) rfl ?_; clear H; intro a H; refine s_load ty3run H wn rfl (H.hp.ocell 1 rfl rfl) rfl ?_; clear H; intro a H; refine s_build sr91par [_, _, _, _] H wn rfl rfl rfl rfl ?_; clear H; intro a H; refine s_alloc ty91par H wn rfl ?_; clear H; intro b5 a w hb5 H; refine s_store ty91par 0 (vs := [_, _, _, _]) _ H wn rfl rfl rfl rfl rfl rfl rfl rfl ?_; clear H; intro w H; dsimp only [List.set, setRow] at H; refine hK5 _ _ ?_; clear hK5; refine c_seq (fun _ hK6 => ?_); refine c_seqR (fun _ hK7 => ?_); refine s_load ty4doc H wn rfl (H.hp.ocell 3 rfl rfl) rfl ?_; clear H; intro a H; refine hK7 _ _ ?_; clear hK7; refine c_cond H rfl ?_ ?_
  · intro h12
    try have p12 := of_decide_eq_true h12
    refine c_region ?_; refine s_field fd91_0par H wn rfl rfl ?_; clear H; intro a H; refine s_store ty3run 0 (vs := [_]) _ H wn rfl rfl rfl rfl rfl rfl rfl rfl ?_; clear H; intro w H; dsimp only [List.set, setRow] at H; refine wl_nil ?_; refine hK6 _ _ ?_; clear hK6; refine c_seqR (fun _ hK8 => ?_); refine s_load ty3run H wn rfl (H.hp.ocell 2 rfl rfl) rfl ?_; clear H; intro a H; refine s_store ty3run 1 (vs := [_]) _ H wn rfl rfl rfl rfl rfl rfl rfl rfl ?_; clear H; intro w H; dsimp only [List.set, setRow] at H; refine s_store ty4doc 3 (vs := [_]) _ H wn rfl rfl rfl rfl rfl rfl rfl rfl ?_; clear H; intro w H; dsimp only [List.set, setRow] at H; refine hK8 _ _ ?_; clear hK8; refine c_seqR (fun _ hK9 => ?_); refine s_load ty258par H wn rfl (H.hp.gcell (by assumption)) rfl ?_; clear H; intro a H; refine s_loada ty91par (cs := [_, _, _, _]) H wn rfl rfl (H.hp.ocells 0 rfl rfl) rfl ?_; clear H; intro a H; refine s_callv (Li := [_, _, _, _]) (L := L) H wn rfl rfl (hcb j _ _ _ _ ⟨bkP ⟨if lo then 4 else 1, fr, at_, false⟩, hx 0 _ (by rw [restL, if_neg p8]; rfl), by unfold bkP; rw [h12]; rfl⟩ hGi hJ (Hp.owns (Li := [_, _, _, _]) H.hp)) rfl ?_; clear H; rintro v17 G17 Lu a w ⟨b17, rfl, hb1, hb2⟩ hm17 H; refine s_assign H wn rfl rfl ?_; clear H; intro a H; refine hK9 _ _ ?_; clear hK9; refine c_ret ?_; refine (leave1 H Tryz.results170 (.cons (rv_tmp H rfl) .nil) ?_).1; exact H.hp.retD (L' := (bf, _) :: (ba, _) :: (bl, _) :: Lu) (List.Sublist.cons _ (List.Sublist.refl _)) ⟨b17, _, _, Lu, rfl, rfl, fun e => (by rw [restL, if_neg p8]; exact hb1 e), hb2⟩
  intro h12
  try have p12 := of_decide_eq_false h12
  refine c_skip ?_; refine hK6 _ _ ?_; clear hK6; refine c_seqR (fun _ hK10 => ?_); refine s_load ty3run H wn rfl (H.hp.ocell 2 rfl rfl) rfl ?_; clear H; intro a H; refine s_store ty3run 1 (vs := [_]) _ H wn rfl rfl rfl rfl rfl rfl rfl rfl ?_; clear H; intro w H; dsimp only [List.set, setRow] at H; refine s_store ty4doc 3 (vs := [_]) _ H wn rfl rfl rfl rfl rfl rfl rfl rfl ?_; clear H; intro w H; dsimp only [List.set, setRow] at H; refine hK10 _ _ ?_; clear hK10; refine c_seqR (fun _ hK11 => ?_); refine s_load ty258par H wn rfl (H.hp.gcell (by assumption)) rfl ?_; clear H; intro a H; refine s_loada ty91par (cs := [_, _, _, _]) H wn rfl rfl (H.hp.ocells 0 rfl rfl) rfl ?_; clear H; intro a H; refine s_callv (Li := [_, _, _, _]) (L := L) H wn rfl rfl (hcb j _ _ _ _ ⟨bkP ⟨if lo then 4 else 1, fr, at_, false⟩, hx 0 _ (by rw [restL, if_neg p8]; rfl), by unfold bkP; rw [h12]; rfl⟩ hGi hJ (Hp.owns (Li := [_, _, _, _]) H.hp)) rfl ?_; clear H; rintro v17 G17 Lu a w ⟨b17, rfl, hb1, hb2⟩ hm17 H; refine s_assign H wn rfl rfl ?_; clear H; intro a H; refine hK11 _ _ ?_; clear hK11; refine c_ret ?_; refine (leave1 H Tryz.results170 (.cons (rv_tmp H rfl) .nil) ?_).1; exact H.hp.retD (L' := (bf, _) :: (ba, _) :: (bl, _) :: Lu) (List.Sublist.cons _ (List.Sublist.refl _)) ⟨b17, _, _, Lu, rfl, rfl, fun e => (by rw [restL, if_neg p8]; exact hb1 e), hb2⟩
theorem Now.up {α : Type} {xs : List AP} {P : α → AP} {J : Nat → GH → OL → Prop} {je j : Nat} {A : List α} {g g' : GH} {L : OL} (h : Now xs P J je j A g L) (hJm : JMono J) (hm : ∀ b o, g b = some o → g' b = some o) : Now xs P J je j A g' L := ⟨hJm _ _ _ _ hm h.now, h.rem, h.len⟩
theorem restL_len (fr at_ : Int) (lo : Bool) : (restL fr at_ lo).length ≤ 1 := by unfold restL; split <;> simp
theorem blkS_len : ∀ (l : List ItemD) (fr at_ : Int) (lo : Bool), (blkS fr at_ lo l).length ≤ 2 * l.length + 1
  | [], fr, at_, lo => by rw [blkS]; exact restL_len _ _ _
  | x :: l, fr, at_, lo => by
    have h := restL_len fr at_ lo; rw [blkS]
    split
    · have := blkS_len l (at_ + 1) (at_ + n1 x) true; simp only [List.length_cons]; omega
    split
    · have := blkS_len l (at_ + 1) (at_ + n1 x) true; simp only [List.length_append, List.length_cons]; omega
    have := blkS_len l fr (at_ + n1 x) (lo && (decide (x.kind = 8) || decide (n1 x = 0))); simp only [List.length_cons]; omega
set_option maxHeartbeats 1000000 in
theorem blocks1_iter {G : GH} {bd : Nat} {l : List ItemD} {v : Value} (hb : gcell G bd 0 = some v) (hv : RepV G (.sl 11 (l.map ItemD.dat)) v) (hz : zItems l ≤ 4294967290) :
    Iter Tryz.prog G (.func (.func 169) #[] #[.pointer (some ⟨bd, 0, none⟩)]) ((blkS 0 0 true l).map bkP) := by
  intro J Jx fv G1 L w0 hfv hGi hJm hJx hJ hO hcb; refine callV_func (caps := [.pointer (some ⟨bd, 0, none⟩)]) en169par ?_; obtain ⟨A, c, rfl, hc1, hc2, hg⟩ := hv.slice; rw [List.length_map] at *; have hll := zItems_length l; replace hb := gcell_mono hGi hb; refine enterL (N := 70) (T := [(0, _), (1, _)]) Tryz.func169 rfl Tryz.ntmps169 rfl rfl hO ?_; intro a H; refine c_seqR (fun _ hK1 => ?_); refine s_box (cs := [fv]) H wn rfl hfv rfl ?_; clear H; intro b2 a w hb2 H; refine hK1 _ _ ?_; clear hK1; refine c_seqR (fun _ hK2 => ?_); refine s_alloc ty3run H wn rfl ?_; clear H; intro b3 a w hb3 H; refine s_alloc ty3run H wn rfl ?_; clear H; intro b4 a w hb4 H; refine s_alloc ty4doc H wn rfl ?_; clear H; intro b5 a w hb5 H; refine s_store ty3run 2 (vs := [_]) _ H wn rfl rfl rfl rfl rfl rfl rfl rfl ?_; clear H; intro w H; dsimp only [List.set, setRow] at H; refine s_store ty3run 1 (vs := [_]) _ H wn rfl rfl rfl rfl rfl rfl rfl rfl ?_; clear H; intro w H; dsimp only [List.set, setRow] at H; refine s_store ty4doc 0 (vs := [_]) _ H wn rfl rfl rfl rfl rfl rfl rfl rfl ?_; clear H; intro w H; dsimp only [List.set, setRow] at H; refine hK2 _ _ ?_; clear hK2; refine c_seq (fun _ hK3 => ?_); have H := H.pickT (Pl := [_, _, _, _]) (Pl' := [_, _, _, _]) [3, 2, 1, 0] (by decide) rfl; obtain ⟨Ga, hma, hb2, H⟩ := H.giveBox
  have hy : gcell Ga b2 0 = some fv := by unfold gcell; rw [hb2]; rfl
  replace hb := gcell_mono hma hb; refine c_region ?_; refine s_makeFunc H wn rfl rfl ?_; clear H; intro a H; refine s_assign H wn rfl rfl ?_; clear H; intro a H; refine wl_nil ?_; refine hK3 _ _ ?_; clear hK3; refine c_seq (fun _ hK4 => ?_); refine c_seqR (fun _ hK5 => ?_); refine s_load ty32run H wn rfl (H.hp.gcell (by assumption)) rfl ?_; clear H; intro a H; refine s_len un32run H wn rfl rfl ?_; clear H; intro a H; refine s_move H wn rfl rfl ?_; clear H; intro a H; refine hK5 _ _ ?_; clear hK5; refine c_block ?_; skip; refine c_loopS (ι := Nat × Int × Int × Bool × Nat × OL × GH) (Tc := [(2, _), (3, _), (4, _), (5, _), (6, _), (12, _), (13, _)]) (Lc := []) (fun (gh : Nat × Int × Int × Bool × Nat × OL × GH) => [(14, vi gh.1)]) (fun (gh : Nat × Int × Int × Bool × Nat × OL × GH) => [(b3, .cells #[vi gh.2.1] 3 (0, 0)), (b4, .cells #[vi gh.2.2.1] 3 (0, 0)), (b5, .cells #[.bool gh.2.2.2.1] 4 (0, 0))] ++ gh.2.2.2.2.2.1) (fun (gh : Nat × Int × Int × Bool × Nat × OL × GH) => gh.2.2.2.2.2.2) (fun (gh : Nat × Int × Int × Bool × Nat × OL × GH) => gh.1 ≤ l.length ∧ (∀ b o, Ga b = some o → gh.2.2.2.2.2.2 b = some o) ∧ Now ((blkS 0 0 true l).map bkP) bkP J (blkS 0 0 true l).length gh.2.2.2.2.1 (blkS gh.2.1 gh.2.2.1 gh.2.2.2.1 (l.drop gh.1)) gh.2.2.2.2.2.2 gh.2.2.2.2.2.1 ∧ 0 ≤ gh.2.2.1 ∧ gh.2.2.1 + zItems (l.drop gh.1) ≤ 4294967290) (fun (gh : Nat × Int × Int × Bool × Nat × OL × GH) => l.length - gh.1) ((0, 0, 0, true, 0, L, Ga)) (by exact (H).sub ⟨rfl, rfl, rfl, rfl, rfl, rfl, rfl, rfl, trivial⟩) ?_ ?_
  · exact ⟨by omega, fun _ _ h => h, ⟨hJm _ _ _ _ hma hJ, fun i a h => by rw [Nat.zero_add, List.getElem?_map]; rw [List.drop_zero] at h; rw [h]; rfl, by simp⟩, Int.le_refl _, by simp; omega⟩
  clear H; intro gh a w hI H; obtain ⟨k, fr, at_, lo, j1, Lt, g⟩ := gh; dsimp only at hI H; obtain ⟨hk, hgm, hnow, hat0, hat⟩ := hI; dsimp only [List.cons_append, List.nil_append, List.append_nil] at H; refine c_seqR (fun _ hK6 => ?_); refine s_cmp H wn rfl rfl rfl rfl ?_; clear H; intro a H; refine hK6 _ _ ?_; clear hK6; refine c_seq (fun _ hK7 => ?_); refine c_cond H rfl ?_ ?_
  · intro h15
    try have p15 := of_decide_eq_true h15
    have hk2 : k < l.length := by omega
    obtain ⟨b, o, pA, pn, pc, dA, dn, dc, yA, yn, yc, fA, fn, fc, rA, rn, rc, rfl, hrow, hhd, hfl, hrw⟩ := flow_get hk2 hg; have hgm0 : ∀ b o, G b = some o → g b = some o := fun b o h => hgm b o (hma b o (hGi b o h)); replace hrow := fun j u hj => gcell_mono hgm0 (hrow j u hj); have hsz2 := zItems_mem (List.getElem_mem hk2); have hn1 := n1_le l[k]; rw [List.drop_eq_getElem_cons hk2] at hnow hat; rw [zItems, List.map_cons, szRs] at hat; rw [blkS] at hnow; refine c_skip ?_; refine hK7 _ _ ?_; clear hK7; refine c_seq (fun _ hK8 => ?_); refine c_block ?_; refine c_seqR (fun _ hK9 => ?_); refine s_index un32run ty35run _ H wn rfl rfl rfl (by first | assumption | omega) rfl ?_; clear H; intro a H; refine s_loada ty35run (cs := [_, _, _, _, _, _, _, _, _, _, _]) H wn rfl rfl (fun j v hj => H.hp.gcell (hrow j v hj)) rfl ?_; clear H; intro a H; refine s_alloc ty35run H wn rfl ?_; clear H; intro b8 a w hb8 H; refine s_store ty35run 0 (vs := [_, _, _, _, _, _, _, _, _, _, _]) _ H wn rfl rfl rfl rfl rfl rfl rfl rfl ?_; clear H; intro w H; dsimp only [List.set, setRow] at H; refine hK9 _ _ ?_; clear hK9; refine c_seqR (fun _ hK10 => ?_); refine s_loada ty35run (cs := [_, _, _, _, _, _, _, _, _, _, _]) H wn rfl rfl (H.hp.ocells 0 rfl rfl) rfl ?_; clear H; intro a H; refine s_call en99par H wn rfl (size_spec _ _ H.hp.ro l[k] _ (RepRow.mkItem (hhd.mono hgm0) (hfl.mono hgm0) (hrw.mono hgm0)) (by omega)) rfl ?_; clear H; rintro v19 G19 a w rfl hm19 H; replace hnow := hnow.up hJm hm19; have hgm1 : ∀ b o, G1 b = some o → G19 b = some o := fun b o h => hm19 b o (hgm b o (hma b o h)); have hy19 := gcell_mono (fun b o h => hm19 b o (hgm b o h)) hy; refine s_assign H wn rfl rfl ?_; clear H; intro a H; refine hK10 _ _ ?_; clear hK10; refine c_seq (fun _ hK11 => ?_); refine c_seqR (fun _ hK12 => ?_); refine s_field fd35_0run H wn rfl rfl ?_; clear H; intro a H; refine s_load ty3run H wn rfl (H.hp.ocell 0 rfl rfl) rfl ?_; clear H; intro a H; refine hK12 _ _ ?_; clear hK12; refine c_block ?_; refine c_seqR (fun _ hK13 => ?_); refine s_cmp H wn rfl rfl rfl rfl ?_; clear H; intro a H; refine s_assign H wn rfl rfl ?_; clear H; intro a H; refine hK13 _ _ ?_; clear hK13; refine c_cond H rfl ?_ ?_
    · intro h32
      try have p32 := of_decide_eq_true h32
      rw [if_pos p32] at hnow; refine c_seq (fun _ hK14 => ?_); refine c_seqR (fun _ hK15 => ?_); refine s_load ty258par H wn rfl (H.hp.gcell (by assumption)) rfl ?_; clear H; intro a H; refine s_load ty3run H wn rfl (H.hp.ocell 1 rfl rfl) rfl ?_; clear H; intro a H; refine s_load ty3run H wn rfl (H.hp.ocell 2 rfl rfl) rfl ?_; clear H; intro a H; refine s_add _ H wn rfl rfl rfl (by omega) (by omega) rfl ?_; clear H; intro a H; refine s_build sr91par [_, _, _, _] H wn rfl rfl rfl rfl ?_; clear H; intro a H; refine s_callv (Li := [_, _, _, _]) (L := Lt) H wn rfl rfl (hcb j1 _ _ _ _ ⟨_, hnow.head, rfl⟩ hgm1 hnow.now (Hp.owns (Li := [_, _, _, _]) H.hp)) rfl ?_; clear H; rintro v39 G39 Lt39 a w ⟨b39, rfl, hb1, hb2⟩ hm39 H; have hy39 := gcell_mono hm39 hy19; refine s_not H wn rfl rfl ?_; clear H; intro a H; refine hK15 _ _ ?_; clear hK15; refine c_cond H rfl ?_ ?_
      · intro h40
        try have p40 := of_decide_eq_true h40
        refine c_ret ?_; refine (leave0 H Tryz.results169 ?_).1
        first
          | exact H.hp.retD (L' := Lt39) (by repeat (first | exact List.Sublist.refl _ | apply List.Sublist.cons)) (.inr (hb2 (by simpa using h40)))
          | exact H.hp.retD (L' := Lu50) (by repeat (first | exact List.Sublist.refl _ | apply List.Sublist.cons)) (.inr (hb2 (by simpa using h52)))
          | exact H.hp.retD (L' := Lt59) (by repeat (first | exact List.Sublist.refl _ | apply List.Sublist.cons)) (.inr (hb4 (by simpa using h61)))
          | (cases b69
             · exact H.hp.retD (L' := Lu69) (by repeat (first | exact List.Sublist.refl _ | apply List.Sublist.cons)) (.inr (hb2 rfl))
             exact H.hp.retD (L' := Lu69) (by repeat (first | exact List.Sublist.refl _ | apply List.Sublist.cons)) (.inl (by have := hnow.len; (try rw [List.length_map]); rw [← this]; exact hb1 rfl)))
      intro h40
      try have p40 := of_decide_eq_false h40
      refine c_skip ?_; refine hK14 _ _ ?_; clear hK14; refine c_region ?_; refine s_load ty3run H wn rfl (H.hp.ocell 2 rfl rfl) rfl ?_; clear H; intro a H; refine s_add _ H wn rfl rfl rfl (by omega) (by omega) rfl ?_; clear H; intro a H; refine s_store ty3run 1 (vs := [_]) _ H wn rfl rfl rfl rfl rfl rfl rfl rfl ?_; clear H; intro w H; dsimp only [List.set, setRow] at H; refine s_store ty4doc 3 (vs := [_]) _ H wn rfl rfl rfl rfl rfl rfl rfl rfl ?_; clear H; intro w H; dsimp only [List.set, setRow] at H; refine wl_nil ?_; refine hK11 _ _ ?_; clear hK11; refine c_region ?_; refine s_load ty3run H wn rfl (H.hp.ocell 2 rfl rfl) rfl ?_; clear H; intro a H; refine s_move H wn rfl rfl ?_; clear H; intro a H; refine s_add _ H wn rfl rfl rfl (by omega) (by omega) rfl ?_; clear H; intro a H; refine s_store ty3run 2 (vs := [_]) _ H wn rfl rfl rfl rfl rfl rfl rfl rfl ?_; clear H; intro w H; dsimp only [List.set, setRow] at H; refine wl_nil ?_; refine hK8 _ _ ?_; clear hK8; refine c_region ?_; refine s_add _ H wn rfl rfl rfl (by omega) (by omega) rfl ?_; clear H; intro a H; refine s_move H wn rfl rfl ?_; clear H; intro a H; refine wl_nil ?_; refine loop_end ((k + 1, at_ + 1, at_ + n1 l[k], true, j1 + 1, Lt39, G39)) (by exact (H.pickT (Pl := [_, _, _, _]) (Pl' := [_, _, _]) [1, 2, 3] (by decide) rfl).sub ⟨rfl, rfl, rfl, rfl, rfl, rfl, rfl, rfl, trivial⟩) ?_ ?_
      · (try dsimp only); exact ⟨by omega, fun b o h => hm39 b o (hm19 b o (hgm b o h)), hnow.step (hb1 (by simpa using h40)), by omega, by show at_ + (n1 l[k] : Int) + (szRs ((l.drop (k + 1)).map ItemD.dat) : Nat) ≤ 4294967290; omega⟩
      first | omega | (dsimp only; omega)
    intro h32
    try have p32 := of_decide_eq_false h32
    refine c_seq (fun _ hK16 => ?_); refine c_seqR (fun _ hK17 => ?_); refine s_cmp H wn rfl rfl rfl rfl ?_; clear H; intro a H; refine s_assign H wn rfl rfl ?_; clear H; intro a H; refine hK17 _ _ ?_; clear hK17; refine c_cond H rfl ?_ ?_
    · intro h43
      try have p43 := of_decide_eq_true h43
      have h73 : l[k].kind = 7 ∨ l[k].kind = 3 := by first | exact .inl p43 | exact .inr p43
      rw [if_neg p32, if_pos h73] at hnow; refine c_skip ?_; refine hK16 _ _ ?_; clear hK16; refine c_cond_t H rfl h43 ?_; refine c_seqR (fun _ hK18 => ?_); refine s_assign H wn rfl rfl ?_; clear H; intro a H; refine hK18 _ _ ?_; clear hK18; refine c_seq (fun _ hK19 => ?_); refine c_seqR (fun _ hK20 => ?_); refine s_field fd35_0run H wn rfl rfl ?_; clear H; intro a H; refine s_load ty3run H wn rfl (H.hp.ocell 0 rfl rfl) rfl ?_; clear H; intro a H; refine s_cmp H wn rfl rfl rfl rfl ?_; clear H; intro a H; refine hK20 _ _ ?_; clear hK20; refine c_cond H rfl ?_ ?_
      · intro h48
        try have p48 := of_decide_eq_true h48
        refine c_region ?_; refine s_assign H wn rfl rfl ?_; clear H; intro a H; refine wl_nil ?_; refine hK19 _ _ ?_; clear hK19; refine c_seq (fun _ hK21 => ?_); refine c_seqR (fun _ hK22 => ?_); refine s_move H wn rfl rfl ?_; clear H; intro a H; refine s_callv (Li := [_]) (L := (b3, _) :: (b4, _) :: (b5, _) :: Lt) H wn rfl rfl (clo46 hcb hgm1 hnow.now (Hp.owns (Li := [_]) H.hp) hy19 hnow.part) rfl ?_; clear H; rintro v50 G50 L50 a w ⟨b50, fr50, lo50, Lu50, rfl, rfl, hb1, hb2⟩ hm50 H; dsimp only [List.cons_append, List.nil_append] at H; have hy50 := gcell_mono hm50 hy19; refine s_not H wn rfl rfl ?_; clear H; intro a H; refine s_move H wn rfl rfl ?_; clear H; intro a H; refine s_split H 52 rfl ?_ ?_
        · intro h52
          try have p52 := of_decide_eq_true h52
          (iterate 8 refine s_skip H rfl rfl h52 rfl ?_; clear H; intro a H); refine s_pick_t H wn rfl h52 rfl rfl ?_; clear H; intro a H; refine hK22 _ _ ?_; clear hK22; refine c_cond_t H rfl rfl ?_; refine c_ret ?_; refine (leave0 H Tryz.results169 ?_).1
          first
            | exact H.hp.retD (L' := Lt39) (by repeat (first | exact List.Sublist.refl _ | apply List.Sublist.cons)) (.inr (hb2 (by simpa using h40)))
            | exact H.hp.retD (L' := Lu50) (by repeat (first | exact List.Sublist.refl _ | apply List.Sublist.cons)) (.inr (hb2 (by simpa using h52)))
            | exact H.hp.retD (L' := Lt59) (by repeat (first | exact List.Sublist.refl _ | apply List.Sublist.cons)) (.inr (hb4 (by simpa using h61)))
            | (cases b69
               · exact H.hp.retD (L' := Lu69) (by repeat (first | exact List.Sublist.refl _ | apply List.Sublist.cons)) (.inr (hb2 rfl))
               exact H.hp.retD (L' := Lu69) (by repeat (first | exact List.Sublist.refl _ | apply List.Sublist.cons)) (.inl (by have := hnow.len; (try rw [List.length_map]); rw [← this]; exact hb1 rfl)))
        intro h52
        try have p52 := of_decide_eq_false h52
        have hnow3 := hnow.jump (hb1 (by simpa using h52)); refine s_load ty258par H (wg H rfl rfl h52) rfl (H.hp.gcell (by assumption)) rfl ?_; clear H; intro a H; refine s_move H (wg H rfl rfl h52) rfl rfl ?_; clear H; intro a H; (iterate 2 refine s_load ty3run H (wg H rfl rfl h52) rfl (H.hp.ocell 2 rfl rfl) rfl ?_; clear H; intro a H); refine s_add _ H (wg H rfl rfl h52) rfl rfl rfl (by omega) (by omega) rfl ?_; clear H; intro a H; refine s_build sr91par [_, _, _, _] H (wg H rfl rfl h52) rfl rfl rfl rfl ?_; clear H; intro a H; refine s_callv (Li := [_, _, _, _]) (L := Lu50) H (wg H rfl rfl h52) rfl rfl (hcb _ _ _ _ _ ⟨_, hnow3.head, by unfold bkP; (first | rw [if_pos p48] | rw [if_neg p48]); rfl⟩ (fun b o h => hm50 b o (hgm1 b o h)) hnow3.now (Hp.owns (Li := [_, _, _, _]) H.hp)) rfl ?_; clear H; rintro v59 G59 Lt59 a w ⟨b59, rfl, hb3, hb4⟩ hm59 H; refine s_not H (wg H rfl rfl h52) rfl rfl ?_; clear H; intro a H; refine s_pick_f H wn rfl h52 rfl rfl ?_; clear H; intro a H; refine hK22 _ _ ?_; clear hK22; refine c_cond H rfl ?_ ?_
        · intro h61
          try have p61 := of_decide_eq_true h61
          refine c_ret ?_; refine (leave0 H Tryz.results169 ?_).1
          first
            | exact H.hp.retD (L' := Lt39) (by repeat (first | exact List.Sublist.refl _ | apply List.Sublist.cons)) (.inr (hb2 (by simpa using h40)))
            | exact H.hp.retD (L' := Lu50) (by repeat (first | exact List.Sublist.refl _ | apply List.Sublist.cons)) (.inr (hb2 (by simpa using h52)))
            | exact H.hp.retD (L' := Lt59) (by repeat (first | exact List.Sublist.refl _ | apply List.Sublist.cons)) (.inr (hb4 (by simpa using h61)))
            | (cases b69
               · exact H.hp.retD (L' := Lu69) (by repeat (first | exact List.Sublist.refl _ | apply List.Sublist.cons)) (.inr (hb2 rfl))
               exact H.hp.retD (L' := Lu69) (by repeat (first | exact List.Sublist.refl _ | apply List.Sublist.cons)) (.inl (by have := hnow.len; (try rw [List.length_map]); rw [← this]; exact hb1 rfl)))
        intro h61
        try have p61 := of_decide_eq_false h61
        refine c_skip ?_; refine hK21 _ _ ?_; clear hK21; refine c_region ?_; refine s_load ty3run H wn rfl (H.hp.ocell 2 rfl rfl) rfl ?_; clear H; intro a H; refine s_add _ H wn rfl rfl rfl (by omega) (by omega) rfl ?_; clear H; intro a H; refine s_store ty3run 1 (vs := [_]) _ H wn rfl rfl rfl rfl rfl rfl rfl rfl ?_; clear H; intro w H; dsimp only [List.set, setRow] at H; refine s_store ty4doc 3 (vs := [_]) _ H wn rfl rfl rfl rfl rfl rfl rfl rfl ?_; clear H; intro w H; dsimp only [List.set, setRow] at H; refine wl_nil ?_; refine hK11 _ _ ?_; clear hK11; refine c_region ?_; refine s_load ty3run H wn rfl (H.hp.ocell 2 rfl rfl) rfl ?_; clear H; intro a H; refine s_move H wn rfl rfl ?_; clear H; intro a H; refine s_add _ H wn rfl rfl rfl (by omega) (by omega) rfl ?_; clear H; intro a H; refine s_store ty3run 2 (vs := [_]) _ H wn rfl rfl rfl rfl rfl rfl rfl rfl ?_; clear H; intro w H; dsimp only [List.set, setRow] at H; refine wl_nil ?_; refine hK8 _ _ ?_; clear hK8; refine c_region ?_; refine s_add _ H wn rfl rfl rfl (by omega) (by omega) rfl ?_; clear H; intro a H; refine s_move H wn rfl rfl ?_; clear H; intro a H; refine wl_nil ?_; refine loop_end ((k + 1, at_ + 1, at_ + n1 l[k], true, j1 + (restL fr at_ lo).length + 1, Lt59, G59)) (by exact (H.pickT (Pl := [_, _, _, _]) (Pl' := [_, _, _]) [1, 2, 3] (by decide) rfl).sub ⟨rfl, rfl, rfl, rfl, rfl, rfl, rfl, rfl, trivial⟩) ?_ ?_
        · (try dsimp only); exact ⟨by omega, fun b o h => hm59 b o (hm50 b o (hm19 b o (hgm b o h))), hnow3.step (hb3 (by simpa using h61)), by omega, by show at_ + (n1 l[k] : Int) + (szRs ((l.drop (k + 1)).map ItemD.dat) : Nat) ≤ 4294967290; omega⟩
        first | omega | (dsimp only; omega)
      intro h48
      try have p48 := of_decide_eq_false h48
      refine c_skip ?_; refine hK19 _ _ ?_; clear hK19; refine c_seq (fun _ hK23 => ?_); refine c_seqR (fun _ hK24 => ?_); refine s_move H wn rfl rfl ?_; clear H; intro a H; refine s_callv (Li := [_]) (L := (b3, _) :: (b4, _) :: (b5, _) :: Lt) H wn rfl rfl (clo46 hcb hgm1 hnow.now (Hp.owns (Li := [_]) H.hp) hy19 hnow.part) rfl ?_; clear H; rintro v50 G50 L50 a w ⟨b50, fr50, lo50, Lu50, rfl, rfl, hb1, hb2⟩ hm50 H; dsimp only [List.cons_append, List.nil_append] at H; have hy50 := gcell_mono hm50 hy19; refine s_not H wn rfl rfl ?_; clear H; intro a H; refine s_move H wn rfl rfl ?_; clear H; intro a H; refine s_split H 52 rfl ?_ ?_
      · intro h52
        try have p52 := of_decide_eq_true h52
        (iterate 8 refine s_skip H rfl rfl h52 rfl ?_; clear H; intro a H); refine s_pick_t H wn rfl h52 rfl rfl ?_; clear H; intro a H; refine hK24 _ _ ?_; clear hK24; refine c_cond_t H rfl rfl ?_; refine c_ret ?_; refine (leave0 H Tryz.results169 ?_).1
        first
          | exact H.hp.retD (L' := Lt39) (by repeat (first | exact List.Sublist.refl _ | apply List.Sublist.cons)) (.inr (hb2 (by simpa using h40)))
          | exact H.hp.retD (L' := Lu50) (by repeat (first | exact List.Sublist.refl _ | apply List.Sublist.cons)) (.inr (hb2 (by simpa using h52)))
          | exact H.hp.retD (L' := Lt59) (by repeat (first | exact List.Sublist.refl _ | apply List.Sublist.cons)) (.inr (hb4 (by simpa using h61)))
          | (cases b69
             · exact H.hp.retD (L' := Lu69) (by repeat (first | exact List.Sublist.refl _ | apply List.Sublist.cons)) (.inr (hb2 rfl))
             exact H.hp.retD (L' := Lu69) (by repeat (first | exact List.Sublist.refl _ | apply List.Sublist.cons)) (.inl (by have := hnow.len; (try rw [List.length_map]); rw [← this]; exact hb1 rfl)))
      intro h52
      try have p52 := of_decide_eq_false h52
      have hnow3 := hnow.jump (hb1 (by simpa using h52)); refine s_load ty258par H (wg H rfl rfl h52) rfl (H.hp.gcell (by assumption)) rfl ?_; clear H; intro a H; refine s_move H (wg H rfl rfl h52) rfl rfl ?_; clear H; intro a H; (iterate 2 refine s_load ty3run H (wg H rfl rfl h52) rfl (H.hp.ocell 2 rfl rfl) rfl ?_; clear H; intro a H); refine s_add _ H (wg H rfl rfl h52) rfl rfl rfl (by omega) (by omega) rfl ?_; clear H; intro a H; refine s_build sr91par [_, _, _, _] H (wg H rfl rfl h52) rfl rfl rfl rfl ?_; clear H; intro a H; refine s_callv (Li := [_, _, _, _]) (L := Lu50) H (wg H rfl rfl h52) rfl rfl (hcb _ _ _ _ _ ⟨_, hnow3.head, by unfold bkP; (first | rw [if_pos p48] | rw [if_neg p48]); rfl⟩ (fun b o h => hm50 b o (hgm1 b o h)) hnow3.now (Hp.owns (Li := [_, _, _, _]) H.hp)) rfl ?_; clear H; rintro v59 G59 Lt59 a w ⟨b59, rfl, hb3, hb4⟩ hm59 H; refine s_not H (wg H rfl rfl h52) rfl rfl ?_; clear H; intro a H; refine s_pick_f H wn rfl h52 rfl rfl ?_; clear H; intro a H; refine hK24 _ _ ?_; clear hK24; refine c_cond H rfl ?_ ?_
      · intro h61
        try have p61 := of_decide_eq_true h61
        refine c_ret ?_; refine (leave0 H Tryz.results169 ?_).1
        first
          | exact H.hp.retD (L' := Lt39) (by repeat (first | exact List.Sublist.refl _ | apply List.Sublist.cons)) (.inr (hb2 (by simpa using h40)))
          | exact H.hp.retD (L' := Lu50) (by repeat (first | exact List.Sublist.refl _ | apply List.Sublist.cons)) (.inr (hb2 (by simpa using h52)))
          | exact H.hp.retD (L' := Lt59) (by repeat (first | exact List.Sublist.refl _ | apply List.Sublist.cons)) (.inr (hb4 (by simpa using h61)))
          | (cases b69
             · exact H.hp.retD (L' := Lu69) (by repeat (first | exact List.Sublist.refl _ | apply List.Sublist.cons)) (.inr (hb2 rfl))
             exact H.hp.retD (L' := Lu69) (by repeat (first | exact List.Sublist.refl _ | apply List.Sublist.cons)) (.inl (by have := hnow.len; (try rw [List.length_map]); rw [← this]; exact hb1 rfl)))
      intro h61
      try have p61 := of_decide_eq_false h61
      refine c_skip ?_; refine hK23 _ _ ?_; clear hK23; refine c_region ?_; refine s_load ty3run H wn rfl (H.hp.ocell 2 rfl rfl) rfl ?_; clear H; intro a H; refine s_add _ H wn rfl rfl rfl (by omega) (by omega) rfl ?_; clear H; intro a H; refine s_store ty3run 1 (vs := [_]) _ H wn rfl rfl rfl rfl rfl rfl rfl rfl ?_; clear H; intro w H; dsimp only [List.set, setRow] at H; refine s_store ty4doc 3 (vs := [_]) _ H wn rfl rfl rfl rfl rfl rfl rfl rfl ?_; clear H; intro w H; dsimp only [List.set, setRow] at H; refine wl_nil ?_; refine hK11 _ _ ?_; clear hK11; refine c_region ?_; refine s_load ty3run H wn rfl (H.hp.ocell 2 rfl rfl) rfl ?_; clear H; intro a H; refine s_move H wn rfl rfl ?_; clear H; intro a H; refine s_add _ H wn rfl rfl rfl (by omega) (by omega) rfl ?_; clear H; intro a H; refine s_store ty3run 2 (vs := [_]) _ H wn rfl rfl rfl rfl rfl rfl rfl rfl ?_; clear H; intro w H; dsimp only [List.set, setRow] at H; refine wl_nil ?_; refine hK8 _ _ ?_; clear hK8; refine c_region ?_; refine s_add _ H wn rfl rfl rfl (by omega) (by omega) rfl ?_; clear H; intro a H; refine s_move H wn rfl rfl ?_; clear H; intro a H; refine wl_nil ?_; refine loop_end ((k + 1, at_ + 1, at_ + n1 l[k], true, j1 + (restL fr at_ lo).length + 1, Lt59, G59)) (by exact (H.pickT (Pl := [_, _, _, _]) (Pl' := [_, _, _]) [1, 2, 3] (by decide) rfl).sub ⟨rfl, rfl, rfl, rfl, rfl, rfl, rfl, rfl, trivial⟩) ?_ ?_
      · (try dsimp only); exact ⟨by omega, fun b o h => hm59 b o (hm50 b o (hm19 b o (hgm b o h))), hnow3.step (hb3 (by simpa using h61)), by omega, by show at_ + (n1 l[k] : Int) + (szRs ((l.drop (k + 1)).map ItemD.dat) : Nat) ≤ 4294967290; omega⟩
      first | omega | (dsimp only; omega)
    intro h43
    try have p43 := of_decide_eq_false h43
    first
      | (have hn7 : ¬ l[k].kind = 7 := p43)
      | (have hn3 : ¬ l[k].kind = 3 := p43)
    refine c_region ?_; refine s_cmp H wn rfl rfl rfl rfl ?_; clear H; intro a H; refine s_assign H wn rfl rfl ?_; clear H; intro a H; refine wl_nil ?_; refine hK16 _ _ ?_; clear hK16; refine c_cond H rfl ?_ ?_
    · intro h43
      try have p43 := of_decide_eq_true h43
      have h73 : l[k].kind = 7 ∨ l[k].kind = 3 := by first | exact .inl p43 | exact .inr p43
      rw [if_neg p32, if_pos h73] at hnow; refine c_seqR (fun _ hK25 => ?_); refine s_assign H wn rfl rfl ?_; clear H; intro a H; refine hK25 _ _ ?_; clear hK25; refine c_seq (fun _ hK26 => ?_); refine c_seqR (fun _ hK27 => ?_); refine s_field fd35_0run H wn rfl rfl ?_; clear H; intro a H; refine s_load ty3run H wn rfl (H.hp.ocell 0 rfl rfl) rfl ?_; clear H; intro a H; refine s_cmp H wn rfl rfl rfl rfl ?_; clear H; intro a H; refine hK27 _ _ ?_; clear hK27; refine c_cond H rfl ?_ ?_
      · intro h48
        try have p48 := of_decide_eq_true h48
        refine c_region ?_; refine s_assign H wn rfl rfl ?_; clear H; intro a H; refine wl_nil ?_; refine hK26 _ _ ?_; clear hK26; refine c_seq (fun _ hK28 => ?_); refine c_seqR (fun _ hK29 => ?_); refine s_move H wn rfl rfl ?_; clear H; intro a H; refine s_callv (Li := [_]) (L := (b3, _) :: (b4, _) :: (b5, _) :: Lt) H wn rfl rfl (clo46 hcb hgm1 hnow.now (Hp.owns (Li := [_]) H.hp) hy19 hnow.part) rfl ?_; clear H; rintro v50 G50 L50 a w ⟨b50, fr50, lo50, Lu50, rfl, rfl, hb1, hb2⟩ hm50 H; dsimp only [List.cons_append, List.nil_append] at H; have hy50 := gcell_mono hm50 hy19; refine s_not H wn rfl rfl ?_; clear H; intro a H; refine s_move H wn rfl rfl ?_; clear H; intro a H; refine s_split H 52 rfl ?_ ?_
        · intro h52
          try have p52 := of_decide_eq_true h52
          (iterate 8 refine s_skip H rfl rfl h52 rfl ?_; clear H; intro a H); refine s_pick_t H wn rfl h52 rfl rfl ?_; clear H; intro a H; refine hK29 _ _ ?_; clear hK29; refine c_cond_t H rfl rfl ?_; refine c_ret ?_; refine (leave0 H Tryz.results169 ?_).1
          first
            | exact H.hp.retD (L' := Lt39) (by repeat (first | exact List.Sublist.refl _ | apply List.Sublist.cons)) (.inr (hb2 (by simpa using h40)))
            | exact H.hp.retD (L' := Lu50) (by repeat (first | exact List.Sublist.refl _ | apply List.Sublist.cons)) (.inr (hb2 (by simpa using h52)))
            | exact H.hp.retD (L' := Lt59) (by repeat (first | exact List.Sublist.refl _ | apply List.Sublist.cons)) (.inr (hb4 (by simpa using h61)))
            | (cases b69
               · exact H.hp.retD (L' := Lu69) (by repeat (first | exact List.Sublist.refl _ | apply List.Sublist.cons)) (.inr (hb2 rfl))
               exact H.hp.retD (L' := Lu69) (by repeat (first | exact List.Sublist.refl _ | apply List.Sublist.cons)) (.inl (by have := hnow.len; (try rw [List.length_map]); rw [← this]; exact hb1 rfl)))
        intro h52
        try have p52 := of_decide_eq_false h52
        have hnow3 := hnow.jump (hb1 (by simpa using h52)); refine s_load ty258par H (wg H rfl rfl h52) rfl (H.hp.gcell (by assumption)) rfl ?_; clear H; intro a H; refine s_move H (wg H rfl rfl h52) rfl rfl ?_; clear H; intro a H; (iterate 2 refine s_load ty3run H (wg H rfl rfl h52) rfl (H.hp.ocell 2 rfl rfl) rfl ?_; clear H; intro a H); refine s_add _ H (wg H rfl rfl h52) rfl rfl rfl (by omega) (by omega) rfl ?_; clear H; intro a H; refine s_build sr91par [_, _, _, _] H (wg H rfl rfl h52) rfl rfl rfl rfl ?_; clear H; intro a H; refine s_callv (Li := [_, _, _, _]) (L := Lu50) H (wg H rfl rfl h52) rfl rfl (hcb _ _ _ _ _ ⟨_, hnow3.head, by unfold bkP; (first | rw [if_pos p48] | rw [if_neg p48]); rfl⟩ (fun b o h => hm50 b o (hgm1 b o h)) hnow3.now (Hp.owns (Li := [_, _, _, _]) H.hp)) rfl ?_; clear H; rintro v59 G59 Lt59 a w ⟨b59, rfl, hb3, hb4⟩ hm59 H; refine s_not H (wg H rfl rfl h52) rfl rfl ?_; clear H; intro a H; refine s_pick_f H wn rfl h52 rfl rfl ?_; clear H; intro a H; refine hK29 _ _ ?_; clear hK29; refine c_cond H rfl ?_ ?_
        · intro h61
          try have p61 := of_decide_eq_true h61
          refine c_ret ?_; refine (leave0 H Tryz.results169 ?_).1
          first
            | exact H.hp.retD (L' := Lt39) (by repeat (first | exact List.Sublist.refl _ | apply List.Sublist.cons)) (.inr (hb2 (by simpa using h40)))
            | exact H.hp.retD (L' := Lu50) (by repeat (first | exact List.Sublist.refl _ | apply List.Sublist.cons)) (.inr (hb2 (by simpa using h52)))
            | exact H.hp.retD (L' := Lt59) (by repeat (first | exact List.Sublist.refl _ | apply List.Sublist.cons)) (.inr (hb4 (by simpa using h61)))
            | (cases b69
               · exact H.hp.retD (L' := Lu69) (by repeat (first | exact List.Sublist.refl _ | apply List.Sublist.cons)) (.inr (hb2 rfl))
               exact H.hp.retD (L' := Lu69) (by repeat (first | exact List.Sublist.refl _ | apply List.Sublist.cons)) (.inl (by have := hnow.len; (try rw [List.length_map]); rw [← this]; exact hb1 rfl)))
        intro h61
        try have p61 := of_decide_eq_false h61
        refine c_skip ?_; refine hK28 _ _ ?_; clear hK28; refine c_region ?_; refine s_load ty3run H wn rfl (H.hp.ocell 2 rfl rfl) rfl ?_; clear H; intro a H; refine s_add _ H wn rfl rfl rfl (by omega) (by omega) rfl ?_; clear H; intro a H; refine s_store ty3run 1 (vs := [_]) _ H wn rfl rfl rfl rfl rfl rfl rfl rfl ?_; clear H; intro w H; dsimp only [List.set, setRow] at H; refine s_store ty4doc 3 (vs := [_]) _ H wn rfl rfl rfl rfl rfl rfl rfl rfl ?_; clear H; intro w H; dsimp only [List.set, setRow] at H; refine wl_nil ?_; refine hK11 _ _ ?_; clear hK11; refine c_region ?_; refine s_load ty3run H wn rfl (H.hp.ocell 2 rfl rfl) rfl ?_; clear H; intro a H; refine s_move H wn rfl rfl ?_; clear H; intro a H; refine s_add _ H wn rfl rfl rfl (by omega) (by omega) rfl ?_; clear H; intro a H; refine s_store ty3run 2 (vs := [_]) _ H wn rfl rfl rfl rfl rfl rfl rfl rfl ?_; clear H; intro w H; dsimp only [List.set, setRow] at H; refine wl_nil ?_; refine hK8 _ _ ?_; clear hK8; refine c_region ?_; refine s_add _ H wn rfl rfl rfl (by omega) (by omega) rfl ?_; clear H; intro a H; refine s_move H wn rfl rfl ?_; clear H; intro a H; refine wl_nil ?_; refine loop_end ((k + 1, at_ + 1, at_ + n1 l[k], true, j1 + (restL fr at_ lo).length + 1, Lt59, G59)) (by exact (H.pickT (Pl := [_, _, _, _]) (Pl' := [_, _, _]) [1, 2, 3] (by decide) rfl).sub ⟨rfl, rfl, rfl, rfl, rfl, rfl, rfl, rfl, trivial⟩) ?_ ?_
        · (try dsimp only); exact ⟨by omega, fun b o h => hm59 b o (hm50 b o (hm19 b o (hgm b o h))), hnow3.step (hb3 (by simpa using h61)), by omega, by show at_ + (n1 l[k] : Int) + (szRs ((l.drop (k + 1)).map ItemD.dat) : Nat) ≤ 4294967290; omega⟩
        first | omega | (dsimp only; omega)
      intro h48
      try have p48 := of_decide_eq_false h48
      refine c_skip ?_; refine hK26 _ _ ?_; clear hK26; refine c_seq (fun _ hK30 => ?_); refine c_seqR (fun _ hK31 => ?_); refine s_move H wn rfl rfl ?_; clear H; intro a H; refine s_callv (Li := [_]) (L := (b3, _) :: (b4, _) :: (b5, _) :: Lt) H wn rfl rfl (clo46 hcb hgm1 hnow.now (Hp.owns (Li := [_]) H.hp) hy19 hnow.part) rfl ?_; clear H; rintro v50 G50 L50 a w ⟨b50, fr50, lo50, Lu50, rfl, rfl, hb1, hb2⟩ hm50 H; dsimp only [List.cons_append, List.nil_append] at H; have hy50 := gcell_mono hm50 hy19; refine s_not H wn rfl rfl ?_; clear H; intro a H; refine s_move H wn rfl rfl ?_; clear H; intro a H; refine s_split H 52 rfl ?_ ?_
      · intro h52
        try have p52 := of_decide_eq_true h52
        (iterate 8 refine s_skip H rfl rfl h52 rfl ?_; clear H; intro a H); refine s_pick_t H wn rfl h52 rfl rfl ?_; clear H; intro a H; refine hK31 _ _ ?_; clear hK31; refine c_cond_t H rfl rfl ?_; refine c_ret ?_; refine (leave0 H Tryz.results169 ?_).1
        first
          | exact H.hp.retD (L' := Lt39) (by repeat (first | exact List.Sublist.refl _ | apply List.Sublist.cons)) (.inr (hb2 (by simpa using h40)))
          | exact H.hp.retD (L' := Lu50) (by repeat (first | exact List.Sublist.refl _ | apply List.Sublist.cons)) (.inr (hb2 (by simpa using h52)))
          | exact H.hp.retD (L' := Lt59) (by repeat (first | exact List.Sublist.refl _ | apply List.Sublist.cons)) (.inr (hb4 (by simpa using h61)))
          | (cases b69
             · exact H.hp.retD (L' := Lu69) (by repeat (first | exact List.Sublist.refl _ | apply List.Sublist.cons)) (.inr (hb2 rfl))
             exact H.hp.retD (L' := Lu69) (by repeat (first | exact List.Sublist.refl _ | apply List.Sublist.cons)) (.inl (by have := hnow.len; (try rw [List.length_map]); rw [← this]; exact hb1 rfl)))
      intro h52
      try have p52 := of_decide_eq_false h52
      have hnow3 := hnow.jump (hb1 (by simpa using h52)); refine s_load ty258par H (wg H rfl rfl h52) rfl (H.hp.gcell (by assumption)) rfl ?_; clear H; intro a H; refine s_move H (wg H rfl rfl h52) rfl rfl ?_; clear H; intro a H; (iterate 2 refine s_load ty3run H (wg H rfl rfl h52) rfl (H.hp.ocell 2 rfl rfl) rfl ?_; clear H; intro a H); refine s_add _ H (wg H rfl rfl h52) rfl rfl rfl (by omega) (by omega) rfl ?_; clear H; intro a H; refine s_build sr91par [_, _, _, _] H (wg H rfl rfl h52) rfl rfl rfl rfl ?_; clear H; intro a H; refine s_callv (Li := [_, _, _, _]) (L := Lu50) H (wg H rfl rfl h52) rfl rfl (hcb _ _ _ _ _ ⟨_, hnow3.head, by unfold bkP; (first | rw [if_pos p48] | rw [if_neg p48]); rfl⟩ (fun b o h => hm50 b o (hgm1 b o h)) hnow3.now (Hp.owns (Li := [_, _, _, _]) H.hp)) rfl ?_; clear H; rintro v59 G59 Lt59 a w ⟨b59, rfl, hb3, hb4⟩ hm59 H; refine s_not H (wg H rfl rfl h52) rfl rfl ?_; clear H; intro a H; refine s_pick_f H wn rfl h52 rfl rfl ?_; clear H; intro a H; refine hK31 _ _ ?_; clear hK31; refine c_cond H rfl ?_ ?_
      · intro h61
        try have p61 := of_decide_eq_true h61
        refine c_ret ?_; refine (leave0 H Tryz.results169 ?_).1
        first
          | exact H.hp.retD (L' := Lt39) (by repeat (first | exact List.Sublist.refl _ | apply List.Sublist.cons)) (.inr (hb2 (by simpa using h40)))
          | exact H.hp.retD (L' := Lu50) (by repeat (first | exact List.Sublist.refl _ | apply List.Sublist.cons)) (.inr (hb2 (by simpa using h52)))
          | exact H.hp.retD (L' := Lt59) (by repeat (first | exact List.Sublist.refl _ | apply List.Sublist.cons)) (.inr (hb4 (by simpa using h61)))
          | (cases b69
             · exact H.hp.retD (L' := Lu69) (by repeat (first | exact List.Sublist.refl _ | apply List.Sublist.cons)) (.inr (hb2 rfl))
             exact H.hp.retD (L' := Lu69) (by repeat (first | exact List.Sublist.refl _ | apply List.Sublist.cons)) (.inl (by have := hnow.len; (try rw [List.length_map]); rw [← this]; exact hb1 rfl)))
      intro h61
      try have p61 := of_decide_eq_false h61
      refine c_skip ?_; refine hK30 _ _ ?_; clear hK30; refine c_region ?_; refine s_load ty3run H wn rfl (H.hp.ocell 2 rfl rfl) rfl ?_; clear H; intro a H; refine s_add _ H wn rfl rfl rfl (by omega) (by omega) rfl ?_; clear H; intro a H; refine s_store ty3run 1 (vs := [_]) _ H wn rfl rfl rfl rfl rfl rfl rfl rfl ?_; clear H; intro w H; dsimp only [List.set, setRow] at H; refine s_store ty4doc 3 (vs := [_]) _ H wn rfl rfl rfl rfl rfl rfl rfl rfl ?_; clear H; intro w H; dsimp only [List.set, setRow] at H; refine wl_nil ?_; refine hK11 _ _ ?_; clear hK11; refine c_region ?_; refine s_load ty3run H wn rfl (H.hp.ocell 2 rfl rfl) rfl ?_; clear H; intro a H; refine s_move H wn rfl rfl ?_; clear H; intro a H; refine s_add _ H wn rfl rfl rfl (by omega) (by omega) rfl ?_; clear H; intro a H; refine s_store ty3run 2 (vs := [_]) _ H wn rfl rfl rfl rfl rfl rfl rfl rfl ?_; clear H; intro w H; dsimp only [List.set, setRow] at H; refine wl_nil ?_; refine hK8 _ _ ?_; clear hK8; refine c_region ?_; refine s_add _ H wn rfl rfl rfl (by omega) (by omega) rfl ?_; clear H; intro a H; refine s_move H wn rfl rfl ?_; clear H; intro a H; refine wl_nil ?_; refine loop_end ((k + 1, at_ + 1, at_ + n1 l[k], true, j1 + (restL fr at_ lo).length + 1, Lt59, G59)) (by exact (H.pickT (Pl := [_, _, _, _]) (Pl' := [_, _, _]) [1, 2, 3] (by decide) rfl).sub ⟨rfl, rfl, rfl, rfl, rfl, rfl, rfl, rfl, trivial⟩) ?_ ?_
      · (try dsimp only); exact ⟨by omega, fun b o h => hm59 b o (hm50 b o (hm19 b o (hgm b o h))), hnow3.step (hb3 (by simpa using h61)), by omega, by show at_ + (n1 l[k] : Int) + (szRs ((l.drop (k + 1)).map ItemD.dat) : Nat) ≤ 4294967290; omega⟩
      first | omega | (dsimp only; omega)
    intro h43
    try have p43 := of_decide_eq_false h43
    first
      | (have hn7 : ¬ l[k].kind = 7 := p43)
      | (have hn3 : ¬ l[k].kind = 3 := p43)
    refine c_region ?_; refine s_load ty4doc H wn rfl (H.hp.ocell 3 rfl rfl) rfl ?_; clear H; intro a H; refine s_move H wn rfl rfl ?_; clear H; intro a H; refine s_split H 23 rfl ?_ ?_
    · intro h23
      try have p23 := of_decide_eq_true h23
      refine s_field fd35_0run H (wg H rfl rfl h23) rfl rfl ?_; clear H; intro a H; refine s_load ty3run H (wg H rfl rfl h23) rfl (H.hp.ocell 0 rfl rfl) rfl ?_; clear H; intro a H; refine s_cmp H (wg H rfl rfl h23) rfl rfl rfl rfl ?_; clear H; intro a H; refine s_move H (wg H rfl rfl h23) rfl rfl ?_; clear H; intro a H; refine s_split H 27 rfl ?_ ?_
      · intro h27
        try have p27 := of_decide_eq_true h27
        (iterate 2 refine s_skip H rfl rfl h27 rfl ?_; clear H; intro a H); refine s_pick_t H (wg H rfl rfl h23) rfl h27 rfl rfl ?_; clear H; intro a H; refine s_pick_t H wn rfl h23 rfl rfl ?_; clear H; intro a H; refine s_store ty4doc 3 (vs := [_]) _ H wn rfl rfl rfl rfl rfl rfl rfl rfl ?_; clear H; intro w H; dsimp only [List.set, setRow] at H; refine wl_nil ?_; refine hK11 _ _ ?_; clear hK11; refine c_region ?_; refine s_load ty3run H wn rfl (H.hp.ocell 2 rfl rfl) rfl ?_; clear H; intro a H; refine s_move H wn rfl rfl ?_; clear H; intro a H; refine s_add _ H wn rfl rfl rfl (by omega) (by omega) rfl ?_; clear H; intro a H; refine s_store ty3run 2 (vs := [_]) _ H wn rfl rfl rfl rfl rfl rfl rfl rfl ?_; clear H; intro w H; dsimp only [List.set, setRow] at H; refine wl_nil ?_; refine hK8 _ _ ?_; clear hK8; refine c_region ?_; refine s_add _ H wn rfl rfl rfl (by omega) (by omega) rfl ?_; clear H; intro a H; refine s_move H wn rfl rfl ?_; clear H; intro a H; refine wl_nil ?_; refine loop_end ((k + 1, fr, at_ + n1 l[k], true, j1, Lt, G19)) (by exact (H.pickT (Pl := [_, _, _, _]) (Pl' := [_, _, _]) [1, 2, 3] (by decide) rfl).sub ⟨rfl, rfl, rfl, rfl, rfl, rfl, rfl, rfl, trivial⟩) ?_ ?_
        · (try dsimp only); exact ⟨by omega, fun b o h => hm19 b o (hgm b o h), by rw [if_neg p32, if_neg (by omega), h23, decide_eq_true p27] at hnow; exact hnow, by omega, by show at_ + (n1 l[k] : Int) + (szRs ((l.drop (k + 1)).map ItemD.dat) : Nat) ≤ 4294967290; omega⟩
        first | omega | (dsimp only; omega)
      intro h27
      try have p27 := of_decide_eq_false h27
      refine s_move H (wg H rfl rfl h27) rfl rfl ?_; clear H; intro a H; refine s_cmp H (wg H rfl rfl h27) rfl rfl rfl rfl ?_; clear H; intro a H; refine s_pick_f H (wg H rfl rfl h23) rfl h27 rfl rfl ?_; clear H; intro a H; refine s_pick_t H wn rfl h23 rfl rfl ?_; clear H; intro a H; refine s_store ty4doc 3 (vs := [_]) _ H wn rfl rfl rfl rfl rfl rfl rfl rfl ?_; clear H; intro w H; dsimp only [List.set, setRow] at H; refine wl_nil ?_; refine hK11 _ _ ?_; clear hK11; refine c_region ?_; refine s_load ty3run H wn rfl (H.hp.ocell 2 rfl rfl) rfl ?_; clear H; intro a H; refine s_move H wn rfl rfl ?_; clear H; intro a H; refine s_add _ H wn rfl rfl rfl (by omega) (by omega) rfl ?_; clear H; intro a H; refine s_store ty3run 2 (vs := [_]) _ H wn rfl rfl rfl rfl rfl rfl rfl rfl ?_; clear H; intro w H; dsimp only [List.set, setRow] at H; refine wl_nil ?_; refine hK8 _ _ ?_; clear hK8; refine c_region ?_; refine s_add _ H wn rfl rfl rfl (by omega) (by omega) rfl ?_; clear H; intro a H; refine s_move H wn rfl rfl ?_; clear H; intro a H; refine wl_nil ?_; refine loop_end ((k + 1, fr, at_ + n1 l[k], decide ((n1 l[k] : Int) = 0), j1, Lt, G19)) (by exact (H.pickT (Pl := [_, _, _, _]) (Pl' := [_, _, _]) [1, 2, 3] (by decide) rfl).sub ⟨rfl, rfl, rfl, rfl, rfl, rfl, rfl, rfl, trivial⟩) ?_ ?_
      · (try dsimp only); exact ⟨by omega, fun b o h => hm19 b o (hgm b o h), by rw [if_neg p32, if_neg (by omega), h23, decide_eq_false p27, Bool.true_and, Bool.false_or, show decide (n1 l[k] = 0) = decide ((n1 l[k] : Int) = 0) by simp] at hnow; exact hnow, by omega, by show at_ + (n1 l[k] : Int) + (szRs ((l.drop (k + 1)).map ItemD.dat) : Nat) ≤ 4294967290; omega⟩
      first | omega | (dsimp only; omega)
    intro h23
    try have p23 := of_decide_eq_false h23
    (iterate 4 refine s_skip H rfl rfl h23 rfl ?_; clear H; intro a H); (iterate 2 refine s_skipU H rfl rfl rfl ?_; clear H; intro a H); refine s_skip H rfl rfl h23 rfl ?_; clear H; intro a H; refine s_pick_f H wn rfl h23 rfl rfl ?_; clear H; intro a H; refine s_store ty4doc 3 (vs := [_]) _ H wn rfl rfl rfl rfl rfl rfl rfl rfl ?_; clear H; intro w H; dsimp only [List.set, setRow] at H; refine wl_nil ?_; refine hK11 _ _ ?_; clear hK11; refine c_region ?_; refine s_load ty3run H wn rfl (H.hp.ocell 2 rfl rfl) rfl ?_; clear H; intro a H; refine s_move H wn rfl rfl ?_; clear H; intro a H; refine s_add _ H wn rfl rfl rfl (by omega) (by omega) rfl ?_; clear H; intro a H; refine s_store ty3run 2 (vs := [_]) _ H wn rfl rfl rfl rfl rfl rfl rfl rfl ?_; clear H; intro w H; dsimp only [List.set, setRow] at H; refine wl_nil ?_; refine hK8 _ _ ?_; clear hK8; refine c_region ?_; refine s_add _ H wn rfl rfl rfl (by omega) (by omega) rfl ?_; clear H; intro a H; refine s_move H wn rfl rfl ?_; clear H; intro a H; refine wl_nil ?_; refine loop_end ((k + 1, fr, at_ + n1 l[k], false, j1, Lt, G19)) (by exact (H.pickT (Pl := [_, _, _, _]) (Pl' := [_, _, _]) [1, 2, 3] (by decide) rfl).sub ⟨rfl, rfl, rfl, rfl, rfl, rfl, rfl, rfl, trivial⟩) ?_ ?_
    · (try dsimp only); exact ⟨by omega, fun b o h => hm19 b o (hgm b o h), by rw [if_neg p32, if_neg (by omega), h23] at hnow; exact hnow, by omega, by show at_ + (n1 l[k] : Int) + (szRs ((l.drop (k + 1)).map ItemD.dat) : Nat) ≤ 4294967290; omega⟩
    first | omega | (dsimp only; omega)
  intro h15
  try have p15 := of_decide_eq_false h15
  refine c_exit ?_; refine hK4 _ _ ?_; clear hK4; rw [List.drop_of_length_le (by omega), blkS] at hnow; have hyg := gcell_mono hgm hy; refine c_region ?_; refine s_move H wn rfl rfl ?_; clear H; intro a H; refine s_callv (Li := []) (L := (b3, _) :: (b4, _) :: (b5, _) :: Lt) H wn rfl rfl (clo46 hcb (fun b o h => hgm b o (hma b o h)) hnow.now (Hp.owns (Li := []) H.hp) hyg hnow.rem) rfl ?_; clear H; rintro v69 G69 L69 a w ⟨b69, fr69, lo69, Lu69, rfl, rfl, hb1, hb2⟩ hm69 H; refine wl_nil ?_; refine (leave0 H Tryz.results169 ?_).2
  first
    | exact H.hp.retD (L' := Lt39) (by repeat (first | exact List.Sublist.refl _ | apply List.Sublist.cons)) (.inr (hb2 (by simpa using h40)))
    | exact H.hp.retD (L' := Lu50) (by repeat (first | exact List.Sublist.refl _ | apply List.Sublist.cons)) (.inr (hb2 (by simpa using h52)))
    | exact H.hp.retD (L' := Lt59) (by repeat (first | exact List.Sublist.refl _ | apply List.Sublist.cons)) (.inr (hb4 (by simpa using h61)))
    | (cases b69
       · exact H.hp.retD (L' := Lu69) (by repeat (first | exact List.Sublist.refl _ | apply List.Sublist.cons)) (.inr (hb2 rfl))
       exact H.hp.retD (L' := Lu69) (by repeat (first | exact List.Sublist.refl _ | apply List.Sublist.cons)) (.inl (by have := hnow.len; (try rw [List.length_map]); rw [← this]; exact hb1 rfl)))
end
section
open Go.RowKit
theorem en211it : ∀ args w, (callFunc 211 args).run Tryz.prog w = .ok (.enter 211 args) w := enters Tryz.func211 rfl (by kernel_rfl)
/-- The items with their offsets. -/
def offs : Nat → List ItemD → List (Nat × ItemD)
  | _, [] => []
  | o, x :: l => (o, x) :: offs (o + unitsS x) l
def itP (a : Nat × ItemD) : AP := fun args g => ∃ cs, args = [vi a.1, .agg cs.toArray] ∧ RepRow g a.2.dat cs
theorem it_at {A : List (Nat × ItemD)} {k : Nat} {args : List Value} {g : GH} (h : AtAP (A.map itP) k args g) : ∃ (hk : k < A.length) (cs : List Value), args = [vi A[k].1, .agg cs.toArray] ∧ RepRow g A[k].2.dat cs := by
  obtain ⟨p, hp, hargs⟩ := h; rw [List.getElem?_map] at hp; obtain ⟨q, hq, rfl⟩ := Option.map_eq_some_iff.1 hp; obtain ⟨hk, rfl⟩ := List.getElem?_eq_some_iff.1 hq; obtain ⟨cs, h1, h2⟩ := hargs; exact ⟨hk, cs, h1, h2⟩
theorem offs_len : ∀ (l : List ItemD) (o : Nat), (offs o l).length = l.length
  | [], _ => rfl
  | x :: l, o => by simp [offs, offs_len l]
theorem unitsS_le (x : ItemD) : unitsS x < szR x.dat := by
  have := zItem_eq x; have h2 := cntS_le x.text
  unfold unitsS; split <;> omega
set_option maxHeartbeats 1000000 in
theorem items1_iter {G : GH} {bd : Nat} {l : List ItemD} {v : Value} (hb : gcell G bd 0 = some v) (hv : RepV G (.sl 11 (l.map ItemD.dat)) v) (hz : zItems l ≤ 4294967290) :
    Iter Tryz.prog G (.func (.func 211) #[] #[.pointer (some ⟨bd, 0, none⟩)]) ((offs 0 l).map itP) := by
  intro J Jx fv G1 L w0 hfv hGi hJm hJx hJ hO hcb; refine callV_func (caps := [.pointer (some ⟨bd, 0, none⟩)]) en211it ?_; obtain ⟨A, c, rfl, hc1, hc2, hg⟩ := hv.slice; rw [List.length_map] at *; have hll := zItems_length l; replace hb := gcell_mono hGi hb; refine enterL (N := 28) (T := [(0, _), (1, _)]) Tryz.func211 rfl Tryz.ntmps211 rfl rfl hO ?_; intro a H; refine c_seqR (fun _ hK1 => ?_); refine s_assign H wn rfl rfl ?_; clear H; intro a H; refine hK1 _ _ ?_; clear hK1; refine c_seqR (fun _ hK2 => ?_); refine s_load ty32run H wn rfl (H.hp.gcell (by assumption)) rfl ?_; clear H; intro a H; refine s_len un32run H wn rfl rfl ?_; clear H; intro a H; refine s_move H wn rfl rfl ?_; clear H; intro a H; refine hK2 _ _ ?_; clear hK2; refine c_block ?_; skip; refine c_loopS (ι := Nat × Nat × Nat × OL × GH) (Tc := [(0, _), (8, _), (9, _)]) (Lc := []) (fun (gh : Nat × Nat × Nat × OL × GH) => [(3, vi gh.2.1), (10, vi gh.1)]) (fun (gh : Nat × Nat × Nat × OL × GH) => [] ++ gh.2.2.2.1) (fun (gh : Nat × Nat × Nat × OL × GH) => gh.2.2.2.2) (fun (gh : Nat × Nat × Nat × OL × GH) => gh.1 ≤ l.length ∧ (∀ b o, G1 b = some o → gh.2.2.2.2 b = some o) ∧ Now ((offs 0 l).map itP) itP J (offs 0 l).length gh.2.2.1 (offs gh.2.1 (l.drop gh.1)) gh.2.2.2.2 gh.2.2.2.1 ∧ gh.2.1 + zItems (l.drop gh.1) ≤ 4294967290) (fun (gh : Nat × Nat × Nat × OL × GH) => l.length - gh.1) ((0, 0, 0, L, G1)) (by exact (H).sub ⟨rfl, rfl, rfl, rfl, rfl, trivial⟩) ?_ ?_
  · exact ⟨by omega, fun _ _ h => h, ⟨hJ, fun i a h => by rw [Nat.zero_add, List.getElem?_map]; rw [List.drop_zero] at h; rw [h]; rfl, by simp⟩, by simp; omega⟩
  clear H; intro gh a w hI H; obtain ⟨k, at_, j1, Lt, g⟩ := gh; dsimp only at hI H; obtain ⟨hk, hgm, hnow, hat⟩ := hI; dsimp only [List.cons_append, List.nil_append, List.append_nil] at H; refine c_seq (fun _ hK3 => ?_); skip; refine c_region ?_; refine s_cmp H wn rfl rfl rfl rfl ?_; clear H; intro a H; refine wl_nil ?_; refine hK3 _ _ ?_; clear hK3; refine c_seq (fun _ hK4 => ?_); refine c_cond H rfl ?_ ?_
  · intro h11
    try have p11 := of_decide_eq_true h11
    have hk2 : k < l.length := by omega
    obtain ⟨b, o, pA, pn, pc, dA, dn, dc, yA, yn, yc, fA, fn, fc, rA, rn, rc, rfl, hrow, hhd, hfl, hrw⟩ := flow_get hk2 hg; have hgm0 : ∀ b o, G b = some o → g b = some o := fun b o h => hgm b o (hGi b o h); replace hrow := fun j u hj => gcell_mono hgm0 (hrow j u hj); have hsz2 := zItems_mem (List.getElem_mem hk2); have hn1 := unitsS_le l[k]; have hzi := zItem_eq l[k]; rw [List.drop_eq_getElem_cons hk2] at hnow hat; rw [zItems, List.map_cons, szRs] at hat; rw [offs] at hnow; refine c_skip ?_; refine hK4 _ _ ?_; clear hK4; refine c_seq (fun _ hK5 => ?_); refine c_block ?_; refine c_seqR (fun _ hK6 => ?_); refine s_index un32run ty35run _ H wn rfl rfl rfl (by first | assumption | omega) rfl ?_; clear H; intro a H; refine s_loada ty35run (cs := [_, _, _, _, _, _, _, _, _, _, _]) H wn rfl rfl (fun j v hj => H.hp.gcell (hrow j v hj)) rfl ?_; clear H; intro a H; refine s_alloc ty35run H wn rfl ?_; clear H; intro b5 a w hb5 H; refine s_store ty35run 0 (vs := [_, _, _, _, _, _, _, _, _, _, _]) _ H wn rfl rfl rfl rfl rfl rfl rfl rfl ?_; clear H; intro w H; dsimp only [List.set, setRow] at H; refine hK6 _ _ ?_; clear hK6; refine c_seq (fun _ hK7 => ?_); refine c_seqR (fun _ hK8 => ?_); (iterate 2 refine s_move H wn rfl rfl ?_; clear H; intro a H); refine s_loada ty35run (cs := [_, _, _, _, _, _, _, _, _, _, _]) H wn rfl rfl (H.hp.ocells 0 rfl rfl) rfl ?_; clear H; intro a H; refine s_callv (Li := [_]) (L := Lt) H wn rfl rfl (hcb j1 _ _ _ _ ⟨_, hnow.head, _, rfl, RepRow.mkItem (hhd.mono hgm0) (hfl.mono hgm0) (hrw.mono hgm0)⟩ hgm hnow.now (Hp.owns (Li := [_]) H.hp)) rfl ?_; clear H; rintro v17 G17 Lt17 a w ⟨b17, rfl, hb1, hb2⟩ hm17 H; refine s_not H wn rfl rfl ?_; clear H; intro a H; refine hK8 _ _ ?_; clear hK8; refine c_cond H rfl ?_ ?_
    · intro h18
      try have p18 := of_decide_eq_true h18
      refine c_ret ?_; refine (leave0 H Tryz.results211 ?_).1
      first
        | exact H.hp.retD (L' := Lt17) (by repeat (first | exact List.Sublist.refl _ | apply List.Sublist.cons)) (.inr (hb2 (by simpa using h18)))
        | exact H.hp.retL (.inl (by have := hnow.len; rw [List.drop_of_length_le (by omega)] at this; simp only [offs, List.length_nil, Nat.add_zero] at this; (try rw [List.length_map]); rw [← this]; exact hnow.now))
    intro h18
    try have p18 := of_decide_eq_false h18
    refine c_skip ?_; refine hK7 _ _ ?_; clear hK7; refine c_seqR (fun _ hK9 => ?_); refine s_loada ty35run (cs := [_, _, _, _, _, _, _, _, _, _, _]) H wn rfl rfl (H.hp.ocells 0 rfl rfl) rfl ?_; clear H; intro a H; refine s_call en34run H wn rfl (units_spec _ _ H.hp.ro _ _ _ _ _ _ _ _ _ _ (by omega)) rfl ?_; clear H; rintro v21 _ a w ⟨rfl, rfl⟩ - H; refine s_move H wn rfl rfl ?_; clear H; intro a H; (iterate 2 refine s_extract H wn rfl rfl rfl ?_; clear H; intro a H); (iterate 2 refine s_assign H wn rfl rfl ?_; clear H; intro a H); refine hK9 _ _ ?_; clear hK9; refine c_region ?_; (iterate 2 refine s_move H wn rfl rfl ?_; clear H; intro a H); refine s_add _ H wn rfl rfl rfl (by omega) (by omega) rfl ?_; clear H; intro a H; refine s_assign H wn rfl rfl ?_; clear H; intro a H; refine wl_nil ?_; refine hK5 _ _ ?_; clear hK5; refine c_region ?_; refine s_add _ H wn rfl rfl rfl (by omega) (by omega) rfl ?_; clear H; intro a H; refine s_move H wn rfl rfl ?_; clear H; intro a H; refine wl_nil ?_; refine loop_end ((k + 1, at_ + unitsS l[k], j1 + 1, Lt17, G17)) (by exact (H.pickT (Pl := [_]) (Pl' := []) [] (by decide) rfl).sub ⟨rfl, rfl, rfl, rfl, rfl, trivial⟩) ?_ ?_
    · (try dsimp only); exact ⟨by omega, fun b o h => hm17 b o (hgm b o h), hnow.step (hb1 (by simpa using h18)), by show at_ + unitsS l[k] + szRs ((l.drop (k + 1)).map ItemD.dat) ≤ 4294967290; omega⟩
    first | omega | (dsimp only; omega)
  intro h11
  try have p11 := of_decide_eq_false h11
  refine c_exit ?_; refine (leave0 H Tryz.results211 ?_).2
  first
    | exact H.hp.retD (L' := Lt17) (by repeat (first | exact List.Sublist.refl _ | apply List.Sublist.cons)) (.inr (hb2 (by simpa using h18)))
    | exact H.hp.retL (.inl (by have := hnow.len; rw [List.drop_of_length_le (by omega)] at this; simp only [offs, List.length_nil, Nat.add_zero] at this; (try rw [List.length_map]); rw [← this]; exact hnow.now))
theorem items_spec (G : GH) (w0 : World) (hG : Hold G w0) (l : List ItemD) (v : Value) (hv : RepV G (.sl 11 (l.map ItemD.dat)) v) (hz : zItems l ≤ 4294967290) :
    Calls Tryz.prog 176 #[v] w0 (Ret w0 G fun u G' => ∃ bd, u = .func (.func 211) #[] #[.pointer (some ⟨bd, 0, none⟩)] ∧ Iter Tryz.prog G' u ((offs 0 l).map itP)) := by
  obtain ⟨A, c, rfl, hc1, hc2, hg⟩ := hv.slice; refine enter (N := 4) (T := [(0, _)]) (F := fun k => k < w0.heap.size) (L := []) Tryz.func176 rfl Tryz.ntmps176 rfl rfl hG (fun _ h => h) (fun _ h => by cases h) (fun _ h => by cases h) (fun _ h => by cases h) List.Pairwise.nil ?_; intro a H; refine c_seqR (fun _ hK1 => ?_); refine s_box (cs := [_]) H wn rfl rfl rfl ?_; clear H; intro b1 a w hb1 H; refine s_assign H wn rfl rfl ?_; clear H; intro a H; refine hK1 _ _ ?_; clear hK1; refine c_seqR (fun _ hK2 => ?_); refine s_makeFunc H wn rfl rfl ?_; clear H; intro a H; refine s_assign H wn rfl rfl ?_; clear H; intro a H; refine hK2 _ _ ?_; clear hK2; refine c_ret ?_; obtain ⟨G2, hm2, hb1, H⟩ := H.giveBox; refine (leave1 H Tryz.results176 (.cons (rv_tmp H rfl) .nil) ?_).1; exact H.hp.ret ⟨b1, rfl, items1_iter (by unfold gcell; rw [hb1]; rfl) (hv.mono hm2) hz⟩
end
section
open Go.RowKit
def tailOkY (l : List Oper) (clo : List (List Nat)) (B : List Nat) : Bool :=
  B.all (fun b => Nat.blt b l.length && (List.range l.length).all fun i => B.contains i || (clo.getD b []).contains i) &&
  (List.range l.length).all fun i => B.contains i || (clo.getD i []).all fun j => !B.contains j
section
variable {N : Nat} {D : List Deferred} {w0 : World} {F : Nat → Prop} {G0 G G1 G2 : GH} {L L1 L2 : OL} {T Xs : List (Nat × Value)}
variable {r : Option Nat} {P : Program} {Q : Exit → Act → World → Prop} {l : List Oper} {a a' : Act} {w w' : World}
theorem beq_no {x y : Nat} (h : x ≠ y) : Nat.beq x y = false := by
  cases h' : Nat.beq x y with
  | false => rfl
  | true => exact absurd (Nat.eq_of_beq_eq_true h') h
theorem dstOf_lt {i e : Nat} (h : dstOf l i = some e) : i < l.length := by
  unfold dstOf at h
  by_cases hl : i < l.length
  · exact hl
  · rw [List.getElem?_eq_none (by omega)] at h; cases h
theorem c_drawY {id : Nat} (hm : P.follows .mixedOrders = true) (clo : List (List Nat)) (B : List Nat) (hk : drawOk l clo = true) (hB : tailOkY l clo B = true) (pr : Nat → Value → GH → Prop)
    (Y : (Nat → Bool) → Act → World → Prop) (H : St N D w0 F G0 G L T a w)
    (hstep : allI (fun i o => ∀ S a w G1, B.contains i = false → S i = false → (∀ j ∈ clo.getD i [], S j = true) → (∀ k o, G k = some o → G1 k = some o) → St N D w0 F G0 G1 L T a w → (∀ i d, S i = true → dstOf l i = some d → ∃ v, a.tmps[d]? = some v ∧ pr i v G1) →
      WL r P l.toArray (fun e a' w' => e = .normal ∧ DX N D w0 F G0 G L T l pr (setT S i) a' w') [o] a w) 0 l)
    (hmid : ∀ S a w G1, (∀ k o, G k = some o → G1 k = some o) → St N D w0 F G0 G1 L T a w → (∀ i d, B.contains i = false → dstOf l i = some d → ∃ v, a.tmps[d]? = some v ∧ pr i v G1) → (∀ i, B.contains i = true → S i = false) → Y S a w)
    (hstepB : allI (fun i o => ∀ S a w, B.contains i = true → S i = false → (∀ j ∈ clo.getD i [], S j = true) → (∀ j, j < l.length → i ∈ clo.getD j [] → S j = false) → Y S a w → WL r P l.toArray (fun e a' w' => e = .normal ∧ Y (setT S i) a' w') [o] a w) 0 l)
    (hend : ∀ S a w, (∀ i, i < l.length → S i = true) → Y S a w → Q .normal a w) : WP r P (.region id l.toArray true) Q a w := by
  simp only [tailOkY, Bool.and_eq_true, List.all_eq_true, List.mem_range, Bool.or_eq_true, List.contains_iff_mem] at hB
  have hB1 : ∀ b ∈ B, b < l.length ∧ ∀ i, i < l.length → i ∉ B → i ∈ clo.getD b [] := fun b hb => ⟨Eq.mp Nat.blt_eq (hB.1 b hb).1, fun i hi hn => ((hB.1 b hb).2 i hi).resolve_left hn⟩
  refine c_draw hm clo hk (fun S a w => ((∀ i, B.contains i = true → S i = false) ∧ DX N D w0 F G0 G L T l pr S a w) ∨ ((∀ i, i < l.length → B.contains i = false → S i = true) ∧ Y S a w))
    (.inl ⟨fun _ _ => rfl, G, fun _ _ h => h, H.move H.hp.drew, fun _ _ h => by cases h⟩) ?_ ?_
  · intro i o S a w ho hX hSi hclo hdesc
    have hil : i < l.length := (List.getElem?_eq_some_iff.1 ho).1
    by_cases hbi : B.contains i = true
    · have hbm : i ∈ B := by simpa using hbi
      have hall : ∀ j, j < l.length → B.contains j = false → S j = true := fun j hj hb => hclo j ((hB1 i hbm).2 j hj (by simpa using hb))
      have hY : Y S a w := by
        rcases hX with ⟨h1, G1, hG, HS, hv⟩ | ⟨_, hY⟩
        · exact hmid S a w G1 hG HS (fun j e hb he => hv j e (hall j (dstOf_lt he) hb) he) h1
        · exact hY
      have h2 := allI_get hstepB i o ho
      rw [Nat.zero_add] at h2
      refine wl_mono (fun e a' w' ⟨he, hD⟩ => ⟨he, .inr ⟨fun j hj hb => ?_, hD⟩⟩) (h2 S a w hbi hSi hclo hdesc hY)
      unfold setT; split
      · rfl
      · exact hall j hj hb
    · have hbi' : B.contains i = false := by cases h : B.contains i with | false => rfl | true => exact absurd h hbi
      rcases hX with ⟨h1, G1, hG, HS, hv⟩ | ⟨h0, _⟩
      · have h2 := allI_get hstep i o ho
        rw [Nat.zero_add] at h2
        refine wl_mono (fun e a' w' ⟨he, hD⟩ => ⟨he, .inl ⟨fun j hj => ?_, hD⟩⟩) (h2 S a w G1 hbi' hSi hclo hG HS hv)
        unfold setT
        rw [if_neg (by rintro rfl; rw [hbi'] at hj; cases hj)]
        exact h1 j hj
      · rw [h0 i hil hbi'] at hSi; cases hSi
  · intro S a w hall hX
    rcases hX with ⟨h1, G1, hG, HS, hv⟩ | ⟨_, hY⟩
    · exact hend S a w hall (hmid S a w G1 hG HS (fun j e _ he => hv j e (hall j (dstOf_lt he)) he) h1)
    · exact hend S a w hall hY
theorem draw_unit {pr : Nat → Value → GH → Prop} {S : Nat → Bool} {i : Nat} (hi : dstOf l i = none) (HT : St N D w0 F G0 G1 L T a w) (hG : ∀ k o, G k = some o → G1 k = some o) (hv : ∀ i d, S i = true → dstOf l i = some d → ∃ v, a.tmps[d]? = some v ∧ pr i v G1)
    (H : St N D w0 F G0 G1 L (Xs ++ full N a) a w') : DX N D w0 F G0 G L T l pr (setT S i) a w' :=
  ⟨G1, hG, HT.move H.hp, fun j e hj he => hv j e (by
    unfold setT at hj
    by_cases hji : j = i
    · subst hji; rw [hi] at he; cases he
    · rwa [if_neg hji] at hj) he⟩
theorem pm_out (A B C D' : OL) : (A ++ (B ++ (C ++ D'))).Perm ((A ++ (B ++ D')) ++ C) := by
  rw [List.append_assoc A, List.append_assoc B]
  exact List.Perm.append_left A (List.Perm.append_left B List.perm_append_comm)
theorem pm_in (A B C D' : OL) : A ++ (B ++ (C ++ D')) = (A ++ (B ++ C)) ++ D' := by simp
theorem setRow_eq : ∀ (vs c : List Value) (o : Nat), o + vs.length ≤ c.length → setRow c o vs = c.take o ++ vs ++ c.drop (o + vs.length)
  | [], c, o, _ => by simp [setRow]
  | v :: vs, c, o, h => by
    simp only [List.length_cons] at h
    rw [setRow, setRow_eq vs (c.set o v) (o + 1) (by simp; omega), List.take_set, List.drop_set, if_pos (by omega), List.take_succ_eq_append_getElem (by omega)]
    have e : ((c.take o ++ [c[o]]).set o v) = c.take o ++ [v] := by
      have hl : (c.take o).length = o := by simp; omega
      rw [List.set_append, if_neg (by omega), hl, Nat.sub_self]; rfl
    rw [e, List.length_cons, show o + 1 + vs.length = o + (vs.length + 1) by omega]
    simp
/-- The last element of a row is written over. -/
theorem IsRow.over {e sz n b cap : Nat} {cur : Array Value} {xs zc news : List Value} (h : IsRow e sz (.slice (some ⟨b, 0, none⟩) (n + 1) cap) (n + 1) (xs ++ zc) [(b, .cells cur e (0, 0))]) (hx : xs.length = n * sz) (hn : news.length = sz) :
    n * sz + news.length ≤ cur.toList.length ∧ IsRow e sz (.slice (some ⟨b, 0, none⟩) (n + 1) cap) (n + 1) (xs ++ news) [(b, .cells (setRow cur.toList (n * sz) news).toArray e (0, 0))] := by
  rcases h.2 with ⟨h1, _⟩ | ⟨b', cap', cur', h1, h2, h3, h4, h5, h6⟩
  · cases h1
  · cases h1
    cases h2
    have e1 : (n + 1) * sz = n * sz + sz := Nat.succ_mul n sz
    have hle : n * sz + news.length ≤ cur.toList.length := by
      rw [hn, ← e1, Array.length_toList, h5]; exact Nat.mul_le_mul_right _ h3
    have hlz : (xs ++ zc).length = (n + 1) * sz := h.1
    refine ⟨hle, by simp [hx, hn, e1], .inr ⟨b, cap, _, rfl, rfl, h3, h4, by simp [setRow_length, h5], ?_⟩⟩
    have h7 : cur.toList.take (n * sz) = xs := by
      have := congrArg (List.take (n * sz)) h6
      rw [List.take_take, Nat.min_eq_left (by omega), List.take_left' hx] at this
      exact this
    rw [List.toList_toArray, setRow_eq _ _ _ hle, e1, h7, hn]
    exact List.take_left' (by simp [hx, hn])
theorem St.weak (h : St N D w0 F G0 G L Xs a w) (hs : ∀ t v, lk T t = some v → lk Xs t = some v) : St N D w0 F G0 G L T a w := ⟨h.asz, fun t v ht => h.get t v (hs t v ht), h.dfr, h.hp⟩
theorem St.cut1 {s : Nat} {v : Value} (h : St N D w0 F G0 G L ((s, v) :: T) a w) (hs : lk T s = none) : St N D w0 F G0 G L T a w := h.weak fun t u ht => by
  rw [lk_cons_ne (fun e => by subst e; rw [hs] at ht; cases ht)]; exact ht
/-- x = append(x, y): the slice's variable is block bp, the element's block bx. -/
abbrev app1Ops (tS tE s0 s1 s2 s3 s4 s5 p0 p1 : Nat) (zv : Value) (y0 y1 y2 y3 y4 y5 y6 y7 : TypeId) (q0 q1 q2 q3 q4 q5 q6 q7 : String) (f0 f1 f2 f3 f4 f5 f6 f7 : Array Edge) : List Oper :=
  [⟨some s0, .load tS (.tmp p0), y0, q0, f0, none⟩, ⟨some s1, .load tE (.tmp p1), y1, q1, f1, none⟩, ⟨some s2, .call { callee := .builtin .len, args := #[.tmp s0], argTypes := #[tS] }, y2, q2, f2, none⟩,
   ⟨some s3, .buildSlice tS 1 #[(0, .const zv)], y3, q3, f3, none⟩, ⟨some s4, .call { callee := .builtin .append, args := #[.tmp s0, .tmp s3], argTypes := #[tS, tS] }, y4, q4, f4, none⟩,
   ⟨some s5, .indexAddr tS (.tmp s4) (.tmp s2), y5, q5, f5, none⟩, ⟨none, .store tE (.tmp s5) (.tmp s1), y6, q6, f6, none⟩, ⟨none, .store tS (.tmp p0) (.tmp s4), y7, q7, f7, none⟩]
abbrev app1Clo : List (List Nat) := [[], [], [0], [], [0, 1, 2, 3], [0, 1, 2, 3, 4], [0, 1, 2, 3, 4, 5], [0, 1, 2, 3, 4]]
set_option maxHeartbeats 1000000 in
theorem c_app1 {id tS tE s0 s1 s2 s3 s4 s5 p0 p1 i0 i1 bp bx n c0 sz bytes szS : Nat} {A0 : Option Addr} {zero zeroS xs news : List Value} {zv : Value} {Li Lo : OL} {y0 y1 y2 y3 y4 y5 y6 y7 : TypeId} {q0 q1 q2 q3 q4 q5 q6 q7 : String} {f0 f1 f2 f3 f4 f5 f6 f7 : Array Edge}
    (hm : P.follows .mixedOrders = true) (hk : drawOk (app1Ops tS tE s0 s1 s2 s3 s4 s5 p0 p1 zv y0 y1 y2 y3 y4 y5 y6 y7 q0 q1 q2 q3 q4 q5 q6 q7 f0 f1 f2 f3 f4 f5 f6 f7) app1Clo = true)
    (hs : P.underlying tS = some (.slice tE)) (htS : Ty P tS 1 szS zeroS false) (ht : Ty P tE sz bytes zero true) (hsz0 : Nat.blt 0 sz = true) (hsz1 : Nat.ble sz 1000 = true) (hzl : Nat.beq zero.length sz = true) (hzc : zv.cells.toList = zero) (hz1 : zero.all Value.oneCell' = true)
    (hok : dstOk (app1Ops tS tE s0 s1 s2 s3 s4 s5 p0 p1 zv y0 y1 y2 y3 y4 y5 y6 y7 q0 q1 q2 q3 q4 q5 q6 q7 f0 f1 f2 f3 f4 f5 f6 f7) T = true) (hsl : [s0, s1, s2, s3, s4, s5].all (fun s => (lk T s).isNone && Nat.blt s N) = true) (hnd : [s0, s1, s2, s3, s4, s5].Nodup)
    (H : St N D w0 F G0 G (Li ++ Lo) T a w) (hp0 : lk T p0 = some (.pointer (some ⟨bp, 0, none⟩))) (hp1 : lk T p1 = some (.pointer (some ⟨bx, 0, none⟩)))
    (hi0 : Li[i0]? = some (bp, .cells #[.slice A0 n c0] tS (0, 0))) (hi1 : Li[i1]? = some (bx, .cells news.toArray tE (0, 0))) (hnl : news.length = sz) (hn1 : news.all Value.oneCell' = true)
    (hrow : IsRow tE sz (.slice A0 n c0) n xs Lo) (h63 : n + 1 ≤ maxLen) (hb' : (n + 1) * bytes ≤ 140737488355328)
    (hend : ∀ v' Lo' G1 a' w', (∀ k o, G k = some o → G1 k = some o) → IsRow tE sz v' (n + 1) (xs ++ news) Lo' → St N D w0 F G0 G1 (Li.set i0 (bp, .cells #[v'] tS (0, 0)) ++ Lo') T a' w' → Q .normal a' w') :
    WP r P (.region id (app1Ops tS tE s0 s1 s2 s3 s4 s5 p0 p1 zv y0 y1 y2 y3 y4 y5 y6 y7 q0 q1 q2 q3 q4 q5 q6 q7 f0 f1 f2 f3 f4 f5 f6 f7).toArray true) Q a w := by
  have hb0 : i0 < Li.length := (List.getElem?_eq_some_iff.1 hi0).1
  have hb1 : i1 < Li.length := (List.getElem?_eq_some_iff.1 hi1).1
  simp only [List.all_cons, List.all_nil, Bool.and_true, Bool.and_eq_true, Option.isNone_iff_eq_none] at hsl
  obtain ⟨⟨l0, b0⟩, ⟨l1, b1⟩, ⟨l2, b2⟩, ⟨l3, b3⟩, ⟨l4, b4⟩, ⟨l5, b5⟩⟩ := hsl
  simp only [List.nodup_cons, List.mem_cons, List.not_mem_nil, or_false, not_or, not_false_eq_true, List.nodup_nil, and_true] at hnd
  obtain ⟨⟨n01, n02, n03, n04, n05⟩, ⟨n12, n13, n14, n15⟩, ⟨n23, n24, n25⟩, ⟨n34, n35⟩, n45⟩ := hnd
  have hzl' : zero.length = sz := Nat.eq_of_beq_eq_true hzl
  have hszle : sz ≤ 1000 := Nat.le_of_ble_eq_true hsz1
  obtain ⟨pr, hpr⟩ : ∃ pr : Nat → Value → GH → Prop, pr = (fun i v G => match i with
      | 0 => v = .slice A0 n c0 | 1 => v = .agg news.toArray | 2 => v = .int .i64 (n : Int) | 3 => ∃ b, v = .slice (some ⟨b, 0, none⟩) 1 1 ∧ G b = some (.cells zero.toArray tE (0, 0)) | _ => True) := ⟨_, rfl⟩
  have hprm : ∀ i v (G G' : GH), (∀ k o, G k = some o → G' k = some o) → pr i v G → pr i v G' := by
    intro i v G G' hm h
    subst hpr
    match i, h with
    | 0, h => exact h
    | 1, h => exact h
    | 2, h => exact h
    | 3, h => obtain ⟨b, h1, h2⟩ := h; exact ⟨b, h1, hm _ _ h2⟩
    | _ + 4, h => exact trivial
  have hset : Li.set i0 (bp, .cells #[.slice A0 n c0] tS (0, 0)) = Li := by
    have e := (List.getElem?_eq_some_iff.1 hi0).2
    rw [← e]; exact List.set_getElem_self _
  have hLi0 : (Li ++ Lo)[i0]? = some (bp, Obj.cells #[.slice A0 n c0] tS (0, 0)) := by rw [List.getElem?_append_left hb0]; exact hi0
  have hLi1 : (Li ++ Lo)[i1]? = some (bx, Obj.cells news.toArray tE (0, 0)) := by rw [List.getElem?_append_left hb1]; exact hi1
  refine c_drawY hm app1Clo [4, 5, 6, 7] hk (by simp [tailOkY, app1Ops, List.range, List.range.loop]) pr
    (fun S a w => ∃ G1 v Lo' xs', (∀ k o, G k = some o → G1 k = some o) ∧ St N D w0 F G0 G1 (Li.set i0 (bp, .cells #[if S 7 then v else .slice A0 n c0] tS (0, 0)) ++ Lo') T a w ∧ a.tmps[s0]? = some (.slice A0 n c0) ∧ a.tmps[s1]? = some (.agg news.toArray) ∧ a.tmps[s2]? = some (.int .i64 (n : Int)) ∧
      (S 4 = false → v = .slice A0 n c0 ∧ Lo' = Lo ∧ S 7 = false ∧ ∃ b, a.tmps[s3]? = some (.slice (some ⟨b, 0, none⟩) 1 1) ∧ G1 b = some (.cells zero.toArray tE (0, 0))) ∧
      (S 4 = true → IsRow tE sz v (n + 1) xs' Lo' ∧ xs' = xs ++ (if S 6 then news else zero) ∧ a.tmps[s4]? = some v ∧ (S 5 = true → ∃ b c, v = .slice (some ⟨b, 0, none⟩) (n + 1) c ∧ a.tmps[s5]? = some (.pointer (some ⟨b, n * sz, none⟩))))) H ?_ ?_ ?_ ?_
  · refine allI_cons ?_ (allI_cons ?_ (allI_cons ?_ (allI_cons ?_ (allI_cons ?_ (allI_cons ?_ (allI_cons ?_ (allI_cons ?_ allI_nil)))))))
    · intro S a w G1 _ hSi hc hG HT hv
      have Hb := HT.full
      refine s_load htS Hb wn (by show lk _ _ = _; rw [lk_append, hp0]) (Hb.hp.ocell i0 hLi0 rfl) b0 ?_
      intro a' H
      refine wl_nil ⟨rfl, ?_⟩
      exact draw_val (dst1_of hok (by show _ < 8; decide)) hprm rfl rfl HT Hb hG hv (fun _ _ h => h) (by subst hpr; rfl) H
    · intro S a w G1 _ hSi hc hG HT hv
      have Hb := HT.full
      refine s_loada ht (cs := news) Hb wn (by show lk _ _ = _; rw [lk_append, hp1]) hnl (Hb.hp.ocells i1 hLi1 (by simp)) b1 ?_
      intro a' H
      refine wl_nil ⟨rfl, ?_⟩
      exact draw_val (dst1_of hok (by show _ < 8; decide)) hprm rfl rfl HT Hb hG hv (fun _ _ h => h) (by subst hpr; rfl) H
    · intro S a w G1 _ hSi hc hG HT hv
      obtain ⟨u, hu, hpu⟩ := hv 0 s0 (hc 0 (by decide)) rfl
      obtain rfl : u = .slice A0 n c0 := by subst hpr; exact hpu
      have Hb := (HT.addS hu).full
      refine s_len hs Hb wn (by show lk _ _ = _; rw [lk_append, lk_cons_self]) b2 ?_
      intro a' H
      refine wl_nil ⟨rfl, ?_⟩
      exact draw_val (dst1_of hok (by show _ < 8; decide)) hprm rfl rfl HT Hb hG hv (fun _ _ h => h) (by subst hpr; rfl) H
    · intro S a w G1 _ hSi hc hG HT hv
      have Hb := HT.full
      have hzz : ((List.range (1 * sz)).map (fun i => zero[i % zero.length]!)).length = sz := by simp
      refine s_buildSlice (xs := [(0, .const zv)]) (vs := [(0, zv)]) (vs' := [(0, zero)]) hs ht _ zero Hb wn rfl (by simp [hzc]) (by rw [Nat.one_mul]; exact hsz1) (by rw [Nat.one_mul]; exact beq_no (by have : 0 < sz := Eq.mp Nat.blt_eq hsz0; omega)) rfl (fun i q h => by match i, h with | 0, h => exact h | n + 1, h => simp at h) ?_ b3 ?_
      · have e1 : Nat.beq zero.length sz = true := hzl
        have e2 : Nat.ble (0 * sz + zero.length) ((List.range (1 * sz)).map (fun i => zero[i % zero.length]!)).length = true := by rw [hzz, hzl', Nat.zero_mul, Nat.zero_add]; exact Eq.mpr Nat.ble_eq (Nat.le_refl _)
        have e3 : ∀ z : List Value, Nat.ble (0 * sz + zero.length) z.length = true → z.length = sz → fillL ((List.range 1).map fun i => (i * sz, sz)) z [(0, zero)] = some zero := by
          intro z h1 h2
          have h3 : ((List.range 1).map fun i => (i * sz, sz))[0]? = some (0 * sz, sz) := rfl
          simp only [fillL, h3, e1, h1, Bool.and_self, cond_true]
          rw [setRow_eq _ _ _ (by omega), Nat.zero_mul, List.take_zero, List.nil_append, Nat.zero_add, List.drop_of_length_le (by omega), List.append_nil]
        exact e3 _ e2 hzz
      · intro b a' w' hbs H
        obtain ⟨G2, hm2, hb, H⟩ := H.giveBox
        refine wl_nil ⟨rfl, ?_⟩
        exact draw_val (dst1_of hok (by show _ < 8; decide)) hprm rfl rfl HT Hb hG hv hm2 (by subst hpr; exact ⟨b, rfl, hb⟩) H
    · intro _ _ _ _ hB; exact absurd hB (by decide)
    · intro _ _ _ _ hB; exact absurd hB (by decide)
    · intro _ _ _ _ hB; exact absurd hB (by decide)
    · intro _ _ _ _ hB; exact absurd hB (by decide)
  · intro S a w G1 hG HS hv hB
    obtain ⟨u0, hu0, hp0'⟩ := hv 0 s0 (by decide) rfl
    obtain ⟨u1, hu1, hp1'⟩ := hv 1 s1 (by decide) rfl
    obtain ⟨u2, hu2, hp2'⟩ := hv 2 s2 (by decide) rfl
    obtain ⟨u3, hu3, hp3'⟩ := hv 3 s3 (by decide) rfl
    subst hpr
    obtain rfl : u0 = .slice A0 n c0 := hp0'
    obtain rfl : u1 = .agg news.toArray := hp1'
    obtain rfl : u2 = .int .i64 (n : Int) := hp2'
    obtain ⟨b, rfl, hb⟩ : ∃ b, u3 = .slice (some ⟨b, 0, none⟩) 1 1 ∧ G1 b = some (.cells zero.toArray tE (0, 0)) := hp3'
    have h7 := hB 7 (by decide)
    have h4 := hB 4 (by decide)
    refine ⟨G1, _, Lo, xs, hG, ?_, hu0, hu1, hu2, fun _ => ⟨rfl, rfl, h7, b, hu3, hb⟩, fun h => by rw [h4] at h; cases h⟩
    rw [h7, if_neg (by decide), hset]; exact HS
  · refine allI_cons ?_ (allI_cons ?_ (allI_cons ?_ (allI_cons ?_ (allI_cons ?_ (allI_cons ?_ (allI_cons ?_ (allI_cons ?_ allI_nil)))))))
    · intro _ _ _ hB; exact absurd hB (by decide)
    · intro _ _ _ hB; exact absurd hB (by decide)
    · intro _ _ _ hB; exact absurd hB (by decide)
    · intro _ _ _ hB; exact absurd hB (by decide)
    · rintro S a w - h4 - hd ⟨G1, v, Lo', xs', hG, HS, h0, h1, h2, hA, -⟩
      obtain ⟨rfl, rfl, h7, b, h3, hb⟩ := hA h4
      rw [h7, if_neg (by decide)] at HS
      have H := (((HS.addS h0).addS h1).addS h2).addS h3
      refine s_append (news := zero) hs ht hzl hsz0 H wn (by show lk _ _ = _; rw [lk_cons_ne (Ne.symm n03), lk_cons_ne (Ne.symm n02), lk_cons_ne (Ne.symm n01), lk_cons_self]) (by show lk _ _ = _; rw [lk_cons_self]) hrow (by rw [Nat.one_mul]; exact hzl') (fun j u hj => H.hp.gcell (by unfold gcell; rw [hb]; simpa using hj)) hz1 h63 hb' b4 ?_
      intro v' Lo2 a' w' hrow' H'
      refine wl_nil ⟨rfl, G1, v', Lo2, xs ++ zero, hG, ?_, ?_, ?_, ?_, fun h => ?_, fun _ => ⟨hrow', ?_, ?_, fun h => ?_⟩⟩
      · rw [show (setT S 4) 7 = false from h7, if_neg (by decide)]
        exact ((((H'.cut1 (by rw [lk_cons_ne n34, lk_cons_ne n24, lk_cons_ne n14, lk_cons_ne n04]; exact l4)).cut1 (by rw [lk_cons_ne n23, lk_cons_ne n13, lk_cons_ne n03]; exact l3)).cut1 (by rw [lk_cons_ne n12, lk_cons_ne n02]; exact l2)).cut1 (by rw [lk_cons_ne n01]; exact l1)).cut1 l0
      · exact H'.get s0 _ (by rw [lk_cons_ne (Ne.symm n04), lk_cons_ne (Ne.symm n03), lk_cons_ne (Ne.symm n02), lk_cons_ne (Ne.symm n01), lk_cons_self])
      · exact H'.get s1 _ (by rw [lk_cons_ne (Ne.symm n14), lk_cons_ne (Ne.symm n13), lk_cons_ne (Ne.symm n12), lk_cons_self])
      · exact H'.get s2 _ (by rw [lk_cons_ne (Ne.symm n24), lk_cons_ne (Ne.symm n23), lk_cons_self])
      · exact absurd h (by simp [setT])
      · rw [show (setT S 4) 6 = false from hd 6 (show 6 < 8 by decide) (by decide)]; rfl
      · exact H'.get s4 _ (lk_cons_self _ _ _)
      · exact absurd h (by rw [show (setT S 4) 5 = S 5 from rfl, hd 5 (show 5 < 8 by decide) (by decide)]; decide)
    · rintro S a w - h5 hc hd ⟨G1, v, Lo', xs', hG, HS, h0, h1, h2, -, hA⟩
      obtain ⟨hrow', hxs, hs4, -⟩ := hA (hc 4 (by decide))
      obtain ⟨b, cap, hv, -⟩ : ∃ b cap, v = .slice (some ⟨b, 0, none⟩) (n + 1) cap ∧ True := by
        rcases hrow'.2 with ⟨_, h, _⟩ | ⟨b, cap, cur, h, _⟩
        · cases h
        · exact ⟨b, cap, h, trivial⟩
      subst hv
      have H := (((HS.addS h0).addS h1).addS h2).addS hs4
      refine s_index hs ht n H wn (by show lk _ _ = _; rw [lk_cons_self]) (by show lk _ _ = _; rw [lk_cons_ne (Ne.symm n24), lk_cons_self]) rfl (Nat.lt_succ_self n) b5 ?_
      intro a' H'
      rw [Nat.zero_add] at H'
      refine wl_nil ⟨rfl, G1, _, Lo', xs', hG, ?_, ?_, ?_, ?_, fun h => ?_, fun _ => ⟨hrow', hxs, ?_, fun h => ⟨b, cap, rfl, ?_⟩⟩⟩
      · exact ((((H'.cut1 (by rw [lk_cons_ne n45, lk_cons_ne n25, lk_cons_ne n15, lk_cons_ne n05]; exact l5)).cut1 (by rw [lk_cons_ne n24, lk_cons_ne n14, lk_cons_ne n04]; exact l4)).cut1 (by rw [lk_cons_ne n12, lk_cons_ne n02]; exact l2)).cut1 (by rw [lk_cons_ne n01]; exact l1)).cut1 l0
      · exact H'.get s0 _ (by rw [lk_cons_ne (Ne.symm n05), lk_cons_ne (Ne.symm n04), lk_cons_ne (Ne.symm n02), lk_cons_ne (Ne.symm n01), lk_cons_self])
      · exact H'.get s1 _ (by rw [lk_cons_ne (Ne.symm n15), lk_cons_ne (Ne.symm n14), lk_cons_ne (Ne.symm n12), lk_cons_self])
      · exact H'.get s2 _ (by rw [lk_cons_ne (Ne.symm n25), lk_cons_ne (Ne.symm n24), lk_cons_self])
      · exact absurd h (by rw [show (setT S 5) 4 = S 4 from rfl, hc 4 (by decide)]; decide)
      · exact H'.get s4 _ (by rw [lk_cons_ne (Ne.symm n45), lk_cons_self])
      · exact H'.get s5 _ (lk_cons_self _ _ _)
    · rintro S a w - h6 hc hd ⟨G1, v, Lo', xs', hG, HS, h0, h1, h2, -, hA⟩
      obtain ⟨hrow', hxs, hs4, h5⟩ := hA (hc 4 (by decide))
      obtain ⟨b, cap, rfl, hs5⟩ := h5 (hc 5 (by decide))
      rw [h6, if_neg (by decide)] at hxs
      subst hxs
      obtain ⟨cur, hLo⟩ : ∃ cur, Lo' = [(b, .cells cur tE (0, 0))] := by
        rcases hrow'.2 with ⟨h, _⟩ | ⟨b', cap', cur, h, h', _⟩
        · cases h
        · cases h; exact ⟨cur, h'⟩
      subst hLo
      obtain ⟨hle, hov⟩ := hrow'.over hrow.1 hnl
      have H := (HS.addS h1).addS hs5
      refine s_store ht Li.length (b := b) (o := n * sz) (c := cur.toList) (e := tE) (vs := news) _ H wn (by show lk _ _ = _; rw [lk_cons_self]) (by rw [List.getElem?_append_right (by simp), List.length_set, Nat.sub_self]; simp) (by show lk _ _ = _; rw [lk_cons_ne (Ne.symm n15), lk_cons_self]) rfl (by rw [hnl]; exact Nat.beq_refl sz) hn1 (Eq.mpr Nat.ble_eq hle) rfl ?_
      intro w' H'
      refine wl_nil ⟨rfl, G1, _, _, _, hG, ?_, h0, h1, h2, fun h => ?_, fun _ => ⟨hov, ?_, hs4, fun _ => ⟨b, cap, rfl, hs5⟩⟩⟩
      · have H2 := (H'.cut1 (by rw [lk_cons_ne n15]; exact l5)).cut1 l1
        rw [List.set_append_right _ _ (by simp), List.length_set, Nat.sub_self] at H2
        exact H2
      · exact absurd h (by rw [show (setT S 6) 4 = S 4 from rfl, hc 4 (by decide)]; decide)
      · rw [show (setT S 6) 6 = true from rfl]; rfl
    · rintro S a w - h7 hc hd ⟨G1, v, Lo', xs', hG, HS, h0, h1, h2, -, hA⟩
      obtain ⟨hrow', hxs, hs4, h5⟩ := hA (hc 4 (by decide))
      obtain ⟨A', cap, rfl, -, -⟩ := hrow'.shape
      rw [h7, if_neg (by decide), hset] at HS
      have H := HS.addS hs4
      refine s_store htS i0 (c := [.slice A0 n c0]) (vs := [.slice A' (n + 1) cap]) _ H wn (by show lk _ _ = _; rw [lk_cons_ne (fun e => by subst e; rw [hp0] at l4; cases l4)]; exact hp0) (by rw [List.getElem?_append_left hb0]; exact hi0) (by show lk _ _ = _; rw [lk_cons_self]) rfl rfl rfl rfl rfl ?_
      intro w' H'
      refine wl_nil ⟨rfl, G1, _, Lo', xs', hG, ?_, h0, h1, h2, fun h => ?_, fun _ => ⟨hrow', hxs, hs4, h5⟩⟩
      · have H2 := H'.cut1 l4
        rw [List.set_append_left _ _ hb0] at H2
        rw [show (setT S 7) 7 = true from rfl]
        exact H2
      · exact absurd h (by rw [show (setT S 7) 4 = S 4 from rfl, hc 4 (by decide)]; decide)
  · rintro S a w hall ⟨G1, v, Lo', xs', hG, HS, h0, h1, h2, -, hA⟩
    obtain ⟨hrow', hxs, hs4, h5⟩ := hA (hall 4 (show 4 < 8 by decide))
    rw [hall 6 (show 6 < 8 by decide)] at hxs
    rw [hall 7 (show 7 < 8 by decide)] at HS
    subst hxs
    exact hend v Lo' G1 a w hG hrow' HS
end
end
section
open Go.RowKit
theorem en176div : ∀ args w, (callFunc 176 args).run Tryz.prog w = .ok (.enter 176 args) w := enters Tryz.func176 rfl (by kernel_rfl)
def fitA (t : Int) (a : Nat × ItemD) : Bool := decide ((a.1 : Int) + unitsS a.2 ≤ t)
def lA (t : Int) (A : List (Nat × ItemD)) : List ItemD := (A.filter (fitA t)).map (·.2)
def rA (t : Int) (A : List (Nat × ItemD)) : List ItemD := (A.filter fun a => !fitA t a).map (·.2)
theorem lA_yes {t : Int} {A : List (Nat × ItemD)} {k : Nat} (hk : k < A.length) (h : fitA t A[k] = true) : lA t (A.take (k + 1)) = lA t (A.take k) ++ [A[k].2] ∧ rA t (A.take (k + 1)) = rA t (A.take k) := by
  rw [List.take_succ_eq_append_getElem hk]; simp only [lA, rA, List.filter_append, List.map_append]; simp [h]
theorem lA_no {t : Int} {A : List (Nat × ItemD)} {k : Nat} (hk : k < A.length) (h : fitA t A[k] = false) : lA t (A.take (k + 1)) = lA t (A.take k) ∧ rA t (A.take (k + 1)) = rA t (A.take k) ++ [A[k].2] := by
  rw [List.take_succ_eq_append_getElem hk]; simp only [lA, rA, List.filter_append, List.map_append]; simp [h]
theorem lA_len (t : Int) (A : List (Nat × ItemD)) : (lA t A).length ≤ A.length := by simp only [lA, List.length_map]; exact List.length_filter_le _ _
theorem rA_len (t : Int) (A : List (Nat × ItemD)) : (rA t A).length ≤ A.length := by simp only [rA, List.length_map]; exact List.length_filter_le _ _
def leftS (t : Int) (l : List ItemD) : List ItemD := lA t (offs 0 l)
def rightS (t : Int) (l : List ItemD) : List ItemD := rA t (offs 0 l)
theorem offs_mem : ∀ {l : List ItemD} {o : Nat} {a : Nat × ItemD}, a ∈ offs o l → a.2 ∈ l ∧ a.1 + szR a.2.dat ≤ o + zItems l
  | [], _, _, h => by cases h
  | x :: l, o, a, h => by
    rw [offs] at h; have hu := unitsS_le x
    rcases List.mem_cons.1 h with rfl | h
    · exact ⟨List.mem_cons_self, by simp only [zItems, List.map_cons, szRs]; omega⟩
    obtain ⟨h1, h2⟩ := offs_mem h; exact ⟨List.mem_cons_of_mem _ h1, by simp only [zItems, List.map_cons, szRs] at *; omega⟩
theorem divide_spec (G : GH) (w0 : World) (hG : Hold G w0) (l : List ItemD) (t : Int) (v : Value) (hv : RepV G (.sl 11 (l.map ItemD.dat)) v) (hz : zItems l ≤ 1073741824) (hcut : ∀ a ∈ offs 0 l, fitA t a = true ∨ t ≤ a.1) :
    Calls Tryz.prog 208 #[v, vi t] w0 (Ret w0 G fun u G' => ∃ x y, u = .tuple #[x, y] ∧ RepV G' (.sl 11 ((leftS t l).map ItemD.dat)) x ∧ RepV G' (.sl 11 ((rightS t l).map ItemD.dat)) y) := by
  have hml : 4294967297 ≤ maxLen := by decide
  have hll := zItems_length l; have hol := offs_len l 0; obtain ⟨A, hA⟩ : ∃ A, A = offs 0 l := ⟨_, rfl⟩; refine enter (N := 74) (T := [(0, _), (1, _)]) (F := fun k => k < w0.heap.size) (L := []) Tryz.func208 rfl Tryz.ntmps208 rfl rfl hG (fun _ h => h) (fun _ h => by cases h) (fun _ h => by cases h) (fun _ h => by cases h) List.Pairwise.nil ?_; intro a H; refine c_seqR (fun _ hK1 => ?_); refine s_box (cs := [_]) H wn rfl rfl rfl ?_; clear H; intro b3 a w hb3 H; refine s_alloc ty32run H wn rfl ?_; clear H; intro b4 a w hb4 H; refine s_alloc ty32run H wn rfl ?_; clear H; intro b5 a w hb5 H; refine hK1 _ _ ?_; clear hK1; refine c_seq (fun _ hK2 => ?_); refine c_seqR (fun _ hK3 => ?_); refine s_move H wn rfl rfl ?_; clear H; intro a H; refine s_call en176div H wn rfl (items_spec _ _ H.hp.ro l v hv (by omega)) rfl ?_; clear H; rintro v14 G14 a w ⟨bd, rfl, hit⟩ hm14 H; rw [← hA] at hit hcut hol; refine hK3 _ _ ?_; clear hK3; refine c_block ?_; skip; refine c_rangeJ (ι := Value × Value × List Value × List Value × OL × OL) (κ := Empty) (Lc := [(_, _)]) (fun (k : Nat) (gh : Value × Value × List Value × List Value × OL × OL) => [(b4, .cells #[gh.1] 32 (0, 0)), (b5, .cells #[gh.2.1] 32 (0, 0))]) (fun (k : Nat) (gh : Value × Value × List Value × List Value × OL × OL) => gh.2.2.2.2.1 ++ gh.2.2.2.2.2) (fun (k : Nat) (gh : Value × Value × List Value × List Value × OL × OL) (g : GH) => IsRow 35 11 gh.1 (lA t (A.take k)).length gh.2.2.1 gh.2.2.2.2.1 ∧ RepCat g 11 ((lA t (A.take k)).map ItemD.dat) gh.2.2.1 ∧ IsRow 35 11 gh.2.1 (rA t (A.take k)).length gh.2.2.2.1 gh.2.2.2.2.2 ∧ RepCat g 11 ((rA t (A.take k)).map ItemD.dat) gh.2.2.2.1) (fun x => x.elim) (fun x => x.elim) (fun x => x.elim) (fun x => x.elim) ((.slice none 0 0, .slice none 0 0, [], [], [], [])) (by exact (H.nilT (A := [_, _, _])).pickT (Pl := [_, _, _]) (Pl' := [_, _, _]) [2, 1, 0] (by decide) rfl) rfl en211it (hit) (fun _ _ h => h) rfl (fun k args g h => by obtain ⟨_, _, rfl, _⟩ := it_at h; rfl) (fun k i G G' hm h => ⟨h.1, h.2.1.mono hm, h.2.2.1, h.2.2.2.mono hm⟩) (fun x => x.elim) (⟨IsRow.nil, RepCat.nil, IsRow.nil, RepCat.nil⟩) ?_ ?_ ?_
  · clear H; intro l2 rdy bsy bk k args gh G2 w2 F2 B2 a hk2 hm2 hI hbeg2 hnext2 hstop2 H; obtain ⟨vl, vr, xl, xr, Ll, Lr⟩ := gh; dsimp only at hI H; obtain ⟨hk, cs, rfl, hcs⟩ := it_at hk2; obtain ⟨-, hza⟩ := offs_mem (l := l) (o := 0) (a := A[k]) (by rw [← hA]; exact List.getElem_mem hk); have hzi := zItem_eq A[k].2; have hun := unitsS_le A[k].2; have hlk := lA_len t (A.take k); have hrk := rA_len t (A.take k); rw [List.length_take] at hlk hrk; obtain ⟨pA, pn, pc, dA, dn, dc, yA, yn, yc, fA, fn, fc, rA_, rn, rc, rfl, hh, hf, hr⟩ := hcs.item; dsimp only [asg, List.cons_append, List.nil_append] at H; obtain ⟨hrl, hcl, hrr, hcr⟩ := hI; refine c_seqR (fun _ hK4 => ?_); refine s_assign H wn rfl rfl ?_; clear H; intro a H; refine hK4 _ _ ?_; clear hK4; refine c_region ?_; refine s_alloc ty35run H wn rfl ?_; clear H; intro b7 a w hb7 H; refine s_store ty35run 0 (vs := [_, _, _, _, _, _, _, _, _, _, _]) _ H wn rfl rfl rfl rfl rfl rfl rfl rfl ?_; clear H; intro w H; dsimp only [List.set, setRow] at H; refine wl_nil ?_; refine hbeg2 _ _ _ _ _ _ (by exact H.pickT (Pl := [_, _, _, _, _]) (Pl' := [_, _, _, _, _]) [1, 0, 2, 3, 4] (by decide) rfl) ?_; clear H; intro w H; refine c_block ?_; refine c_seqR (fun _ hK5 => ?_); refine s_loada ty35run (cs := [_, _, _, _, _, _, _, _, _, _, _]) H wn rfl rfl (H.hp.ocells 1 rfl rfl) rfl ?_; clear H; intro a H; refine s_call en34run H wn rfl (units_spec _ _ H.hp.ro A[k].2 _ _ _ _ _ _ _ _ _ (by omega)) rfl ?_; clear H; rintro v19 _ a w ⟨rfl, rfl⟩ - H; refine s_move H wn rfl rfl ?_; clear H; intro a H; (iterate 2 refine s_extract H wn rfl rfl rfl ?_; clear H; intro a H); (iterate 2 refine s_assign H wn rfl rfl ?_; clear H; intro a H); refine hK5 _ _ ?_; clear hK5; refine c_block ?_; refine c_seqR (fun _ hK6 => ?_); (iterate 2 refine s_move H wn rfl rfl ?_; clear H; intro a H); refine s_add _ H wn rfl rfl rfl (by omega) (by omega) rfl ?_; clear H; intro a H; refine s_load ty3run H wn rfl (H.hp.ocell 2 rfl rfl) rfl ?_; clear H; intro a H; refine s_cmp H wn rfl rfl rfl rfl ?_; clear H; intro a H; refine s_assign H wn rfl rfl ?_; clear H; intro a H; refine hK6 _ _ ?_; clear hK6; refine c_cond H rfl ?_ ?_
    · intro h50
      try have p50 := of_decide_eq_true h50
      have hfit : fitA t A[k] = true := h50; obtain ⟨e1, e2⟩ := lA_yes hk hfit; obtain ⟨vA, vc, rfl, -, -⟩ := hrl.shape; have H := H.perm (pm_out [_, _, _, _, _] bk Ll Lr); refine c_app1 (i0 := 3) (i1 := 1) hmx (by kernel_rfl) un32run ty32run ty35run rfl rfl rfl rfl rfl (by kernel_rfl) rfl (by decide) H rfl rfl rfl rfl rfl rfl hrl (by omega) (by omega) ?_; clear H; intro vl Ll G10 a w hm10 hrl10 H; have H : St _ _ _ _ _ _ ([_, _, _, _, _] ++ (bk ++ (Ll ++ Lr))) _ _ _ := H.perm (pm_out [_, _, _, _, _] bk Ll Lr).symm; dsimp only [List.cons_append, List.nil_append] at H; obtain ⟨xl, hxl⟩ : ∃ x, x = xl ++ [vi A[k].2.kind, vi A[k].2.code, vi A[k].2.id, .string A[k].2.text, .slice pA pn pc, vi A[k].2.head.marks.ins, vi A[k].2.head.marks.move, .slice dA dn dc, .slice yA yn yc, .slice fA fn fc, .slice rA_ rn rc] := ⟨_, rfl⟩; rw [← hxl] at hrl10
      have hI : IsRow 35 11 vl (lA t (A.take (k + 1))).length xl Ll ∧ RepCat G10 11 ((lA t (A.take (k + 1))).map ItemD.dat) xl ∧ IsRow 35 11 vr (rA t (A.take (k + 1))).length xr Lr ∧ RepCat G10 11 ((rA t (A.take (k + 1))).map ItemD.dat) xr := by
        rw [e1, e2, List.length_append, List.map_append]; exact ⟨hrl10, by rw [hxl]; exact (hcl.mono hm10).snoc (hcs.mono hm10) rfl, hrr, hcr.mono hm10⟩
      refine hnext2 ((vl, vr, xl, xr, Ll, Lr)) _ _ _ _ _ (by exact H.pickT (Pl := [_, _, _, _, _]) (Pl' := [_, _, _, _]) [0, 2, 3, 4] (by decide) rfl) ?_; exact hI
    intro h50
    try have p50 := of_decide_eq_false h50
    have hfit : fitA t A[k] = false := h50; obtain ⟨e1, e2⟩ := lA_no hk hfit; refine c_seqR (fun _ hK7 => ?_); refine s_move H wn rfl rfl ?_; clear H; intro a H; refine s_load ty3run H wn rfl (H.hp.ocell 2 rfl rfl) rfl ?_; clear H; intro a H; refine s_cmp H wn rfl rfl rfl rfl ?_; clear H; intro a H; refine s_assign H wn rfl rfl ?_; clear H; intro a H; refine hK7 _ _ ?_; clear hK7; refine c_cond H rfl ?_ ?_
    · intro h62
      try have p62 := of_decide_eq_true h62
      obtain ⟨vA, vc, rfl, -, -⟩ := hrr.shape; have H := H.cast (pm_in [_, _, _, _, _] bk Ll Lr); refine c_app1 (i0 := 4) (i1 := 1) hmx (by kernel_rfl) un32run ty32run ty35run rfl rfl rfl rfl rfl (by kernel_rfl) rfl (by decide) H rfl rfl rfl rfl rfl rfl hrr (by omega) (by omega) ?_; clear H; intro vr Lr G10 a w hm10 hrr10 H; have H : St _ _ _ _ _ _ ([_, _, _, _, _] ++ (bk ++ (Ll ++ Lr))) _ _ _ := H.cast (pm_in [_, _, _, _, _] bk Ll Lr).symm; dsimp only [List.cons_append, List.nil_append] at H; obtain ⟨xr, hxr⟩ : ∃ x, x = xr ++ [vi A[k].2.kind, vi A[k].2.code, vi A[k].2.id, .string A[k].2.text, .slice pA pn pc, vi A[k].2.head.marks.ins, vi A[k].2.head.marks.move, .slice dA dn dc, .slice yA yn yc, .slice fA fn fc, .slice rA_ rn rc] := ⟨_, rfl⟩; rw [← hxr] at hrr10
      have hI : IsRow 35 11 vl (lA t (A.take (k + 1))).length xl Ll ∧ RepCat G10 11 ((lA t (A.take (k + 1))).map ItemD.dat) xl ∧ IsRow 35 11 vr (rA t (A.take (k + 1))).length xr Lr ∧ RepCat G10 11 ((rA t (A.take (k + 1))).map ItemD.dat) xr := by
        rw [e1, e2, List.length_append, List.map_append]; exact ⟨hrl, hcl.mono hm10, hrr10, by rw [hxr]; exact (hcr.mono hm10).snoc (hcs.mono hm10) rfl⟩
      refine hnext2 ((vl, vr, xl, xr, Ll, Lr)) _ _ _ _ _ (by exact H.pickT (Pl := [_, _, _, _, _]) (Pl' := [_, _, _, _]) [0, 2, 3, 4] (by decide) rfl) ?_; exact hI
    intro h62
    try have p62 := of_decide_eq_false h62
    exact absurd (hcut _ (List.getElem_mem hk)) (by rw [hfit]; simp only [Bool.false_eq_true, false_or]; omega)
  · clear H; intro Dk2 gh Gd2 a w hm2 hI H; obtain ⟨vl, vr, xl, xr, Ll, Lr⟩ := gh; dsimp only at hI H; dsimp only [List.cons_append, List.nil_append, List.append_nil] at H; obtain ⟨hrl, hcl, hrr, hcr⟩ := hI; rw [show A.take (A.map itP).length = A by rw [List.length_map, List.take_length]] at hrl hcl hrr hcr; obtain ⟨lA0, lc0, rfl, -, -⟩ := hrl.shape; obtain ⟨rA0, rc0, rfl, -, -⟩ := hrr.shape; refine hK2 _ _ ?_; clear hK2; refine c_seq (fun _ hK8 => ?_); refine c_drawI (hmx) [[], [], [0], [0, 1, 2]] [] (by kernel_rfl) (by kernel_rfl) (fun (ix_ : Nat) (v : Value) (G : GH) => match ix_ with | 0 => v = .slice lA0 (lA t A).length lc0 | 1 => v = .slice rA0 (rA t A).length rc0 | _ => True) (fun _ _ _ _ _ h => h) H ?_ ?_
    · clear H; refine (allI_cons ?_ (allI_cons ?_ (allI_cons ?_ (allI_cons ?_ allI_nil))))
      · refine opI [] rfl trivial (by kernel_rfl) (fun _ _ _ _ _ h => h) rfl rfl ?_; intro Sd_ a w G1 hG HT H fin; refine s_load ty32run H wn rfl (H.hp.ocell 2 rfl rfl) rfl ?_; clear H; intro a H; exact fin H (fun _ _ h => h) (rfl)
      · refine opI [] rfl trivial (by kernel_rfl) (fun _ _ _ _ _ h => h) rfl rfl ?_; intro Sd_ a w G1 hG HT H fin; refine s_load ty32run H wn rfl (H.hp.ocell 3 rfl rfl) rfl ?_; clear H; intro a H; exact fin H (fun _ _ h => h) (rfl)
      · intro Sd_ a w G1 _ hSi hc hG HT hv; have H := HT; clear hSi; obtain ⟨u72, hu72, hp72⟩ := hv 0 72 (hc 0 (by decide)) rfl; obtain rfl : u72 = .slice lA0 (lA t A).length lc0 := hp72; have H := H.addS hu72; have Hb := H.full; have H := Hb; clear hc; refine s_store ty32run 2 (vs := [_]) _ H wn rfl rfl rfl rfl rfl rfl rfl rfl ?_; clear H; intro w H; dsimp only [List.set, setRow] at H; refine wl_nil ⟨rfl, ?_⟩; exact draw_unit rfl HT hG hv H
      intro Sd_ a w G1 _ hSi hc hG HT hv; have H := HT; clear hSi; obtain ⟨u73, hu73, hp73⟩ := hv 1 73 (hc 1 (by decide)) rfl; obtain rfl : u73 = .slice rA0 (rA t A).length rc0 := hp73; have H := H.addS hu73; have Hb := H.full; have H := Hb; clear hc; refine s_store ty32run 3 (vs := [_]) _ H wn rfl rfl rfl rfl rfl rfl rfl rfl ?_; clear H; intro w H; dsimp only [List.set, setRow] at H; refine wl_nil ⟨rfl, ?_⟩; exact draw_unit rfl HT hG hv H
    clear H; intro a w G hGm13 H hv; clear hv; refine wl_nil ⟨rfl, ?_⟩; refine hK8 _ _ ?_; clear hK8; refine c_ret ?_; obtain ⟨G20, hm20, hgr, H⟩ := St.giveRow (Li := [_, _, _, _] ++ Ll) (St.un (A := [_, _, _, _]) H) hrr (rows := (rA t A).map ItemD.dat) (by simp) (hcr.mono hGm13); obtain ⟨G21, hm21, hgl, H⟩ := St.giveRow (Li := [_, _, _, _]) H hrl (rows := (lA t A).map ItemD.dat) (by simp) ((hcl.mono hGm13).mono hm20); replace hgr := hgr.mono hm21; refine (leaveM H 0 rfl ?_).1; clear H; intro a w H; dsimp only [List.eraseIdx_cons_succ, List.eraseIdx_cons_zero] at H; refine (leaveT H Tryz.results208 (.cons (rv_cell ty32run H rfl (H.hp.ocell 1 rfl rfl)) (.cons (rv_cell ty32run H rfl (H.hp.ocell 2 rfl rfl)) .nil)) ?_).1; exact H.hp.ret ⟨_, _, rfl, by rw [leftS, ← hA]; exact hgl, by rw [rightS, ← hA]; exact hgr⟩
  intro Dk x; exact x.elim
end
section
open Go.RowKit
theorem ty54plc : Ty Tryz.prog 54 2 16 [.int .i64 0, .int .i64 0] true := ⟨by kernel_rfl, by kernel_rfl⟩
theorem sr54plc : Srt Tryz.prog 54 [(0, 1), (1, 1)] [.int .i64 0, .int .i64 0] := ⟨by kernel_rfl, by kernel_rfl⟩
/-- How far an item moves the positions on. -/
def adv (x : ItemD) : Nat := if x.kind = 1 then cntS x.text else 1
mutual
def pItem (flow at_ : Int) : ItemD → List ((Int × Int) × ItemD)
  | .mk k c i t h f r => if k = 6 then ((flow, at_), .mk k c i t h f r) :: pItems i 0 f else if k = 7 then ((flow, at_), .mk k c i t h f r) :: pRows r else []
/-- The notes and tables of a flow, and those in them, with their positions. -/
def pItems (flow : Int) : Int → List ItemD → List ((Int × Int) × ItemD)
  | _, [] => []
  | at_, x :: l => pItem flow at_ x ++ pItems flow (at_ + adv x) l
def pRows : List RowD → List ((Int × Int) × ItemD)
  | [] => []
  | r :: l => pRow r ++ pRows l
def pRow : RowD → List ((Int × Int) × ItemD)
  | .mk _ cs => pCells cs
def pCells : List CellD → List ((Int × Int) × ItemD)
  | [] => []
  | c :: l => pCell c ++ pCells l
def pCell : CellD → List ((Int × Int) × ItemD)
  | .mk i _ f => pItems i 0 f
end
def innerC (x : ItemD) : List CellD := if x.kind = 7 then x.rows.flatMap RowD.cells else [.mk x.id ⟨[], ⟨0, 0, [], []⟩⟩ x.flow]
/-- What is called at a note or table. -/
def plP (a : (Int × Int) × ItemD) : AP := fun args g => ∃ cs, args = [.agg #[vi a.1.1, vi a.1.2], .agg cs.toArray] ∧ RepRow g a.2.dat cs
def PlacedOk (n : Nat) : Prop := ∀ (G : GH) (l : List ItemD) (id : Int) (bl bi : Nat) (v : Value), zItems l < n → gcell G bl 0 = some v → gcell G bi 0 = some (vi id) → RepV G (.sl 11 (l.map ItemD.dat)) v →
  Iter Tryz.prog G (.func (.func 162) #[] #[.pointer (some ⟨bl, 0, none⟩), .pointer (some ⟨bi, 0, none⟩)]) ((pItems id 0 l).map plP)
end
section
open Go.RowKit
theorem en164plr : ∀ args w, (callFunc 164 args).run Tryz.prog w = .ok (.enter 164 args) w := enters Tryz.func164 rfl (by kernel_rfl)
/-- What a test of elements owes. -/
def Tester (fv : Value) (G : GH) (d : List Dat) (b : Bool) : Prop := ∀ (G1 : GH) (w1 : World) (cs : List Value), (∀ b o, G b = some o → G1 b = some o) → Hold G1 w1 → RepRow G1 d cs →
  CallV Tryz.prog fv [.agg cs.toArray] w1 (Ret w1 G1 fun u G' => u = .bool b)
def ixI (o : Option Nat) : Int := match o with | some i => i | none => -1
theorem indexFuncRow (G : GH) (w0 : World) (hG : Hold G w0) (l : List RowD) (p : RowD → Bool) (v fv : Value) (hv : RepV G (.sl 6 (l.map RowD.dat)) v) (hf : ∀ x ∈ l, Tester fv G x.dat (p x)) :
    Calls Tryz.prog 164 #[v, fv] w0 (Ret w0 G fun u G' => u = vi (ixI (l.findIdx? p))) := by
  obtain ⟨A, c, rfl, hc1, hc2, hg⟩ := hv.slice; have hml : maxLen = 9223372036854775807 := rfl; rw [List.length_map] at *; refine enter (N := 19) (T := [(0, _), (1, _)]) (F := fun k => k < w0.heap.size) (L := []) Tryz.func164 rfl Tryz.ntmps164 rfl rfl hG (fun _ h => h) (fun _ h => by cases h) (fun _ h => by cases h) (fun _ h => by cases h) List.Pairwise.nil ?_; intro a H; refine c_seqR (fun _ hK1 => ?_); refine s_assign H wn rfl rfl ?_; clear H; intro a H; refine hK1 _ _ ?_; clear hK1; refine c_seq (fun _ hK2 => ?_); refine c_seqR (fun _ hK3 => ?_); refine s_move H wn rfl rfl ?_; clear H; intro a H; refine s_len un33run H wn rfl rfl ?_; clear H; intro a H; refine s_move H wn rfl rfl ?_; clear H; intro a H; refine hK3 _ _ ?_; clear hK3; refine c_block ?_; skip; refine c_loopS (ι := Nat × GH) (Tc := [(0, _), (1, _), (7, _)]) (Lc := []) (fun (gh : Nat × GH) => [(8, vi gh.1)]) (fun (gh : Nat × GH) => []) (fun (gh : Nat × GH) => gh.2) (fun (gh : Nat × GH) => gh.1 ≤ l.length ∧ (l.take gh.1).findIdx? p = none ∧ (∀ b o, G b = some o → gh.2 b = some o)) (fun (gh : Nat × GH) => l.length - gh.1) ((0, G)) (by exact (H).sub ⟨rfl, rfl, rfl, rfl, trivial⟩) ?_ ?_
  · exact ⟨by omega, rfl, fun _ _ h => h⟩
  clear H; intro gh a w hI H; obtain ⟨k, g⟩ := gh; dsimp only at hI H; obtain ⟨hk, hno, hgm⟩ := hI; dsimp only [List.cons_append, List.nil_append, List.append_nil] at H; refine c_seqR (fun _ hK4 => ?_); refine s_cmp H wn rfl rfl rfl rfl ?_; clear H; intro a H; refine hK4 _ _ ?_; clear hK4; refine c_seq (fun _ hK5 => ?_); refine c_cond H rfl ?_ ?_
  · intro h9
    try have p9 := of_decide_eq_true h9
    have hk2 : k < l.length := by omega
    obtain ⟨b, o, cs, rfl, hcl, hrow, hrep⟩ := hg k l[k].dat (by simp [hk2]); obtain ⟨pA, pn, pc, dA, dn, dc, yA, yn, yc, fA, fn, fc, rfl, -⟩ := hrep.row; replace hrow := fun j u hj => gcell_mono hgm (hrow j u hj); refine c_skip ?_; refine hK5 _ _ ?_; clear hK5; refine c_seq (fun _ hK6 => ?_); refine c_block ?_; refine c_seqR (fun _ hK7 => ?_); refine s_move H wn rfl rfl ?_; clear H; intro a H; refine s_assign H wn rfl rfl ?_; clear H; intro a H; refine hK7 _ _ ?_; clear hK7; refine c_seqR (fun _ hK8 => ?_); (iterate 3 refine s_move H wn rfl rfl ?_; clear H; intro a H); refine s_index un33run ty171run _ H wn rfl rfl rfl (by first | assumption | omega) rfl ?_; clear H; intro a H; refine s_loada ty171run (cs := [_, _, _, _, _, _]) H wn rfl rfl (fun j v hj => H.hp.gcell (hrow j v hj)) rfl ?_; clear H; intro a H; refine s_callv0 H wn rfl rfl (hf _ (List.getElem_mem hk2) _ _ _ hgm H.hp.ro (hrep.mono hgm)) rfl ?_; clear H; rintro v16 G16 a w rfl hm16 H; refine hK8 _ _ ?_; clear hK8; refine c_cond H rfl ?_ ?_
    · intro h16
      try have p16 := of_decide_eq_true h16
      refine c_seqR (fun _ hK9 => ?_); refine s_move H wn rfl rfl ?_; clear H; intro a H; refine s_assign H wn rfl rfl ?_; clear H; intro a H; refine hK9 _ _ ?_; clear hK9; refine c_ret ?_; refine (leave1 H Tryz.results164 (.cons (rv_tmp H rfl) .nil) ?_).1
      first
        | exact H.hp.ret (by rw [idx_stop hk2 hno h16]; rfl)
        | exact H.hp.ret (by rw [show l.take k = l from List.take_of_length_le (by omega)] at hno; rw [hno]; rfl)
    intro h16
    try have p16 := of_decide_eq_false h16
    refine c_skip ?_; refine hK6 _ _ ?_; clear hK6; refine c_region ?_; refine s_add _ H wn rfl rfl rfl (by omega) (by omega) rfl ?_; clear H; intro a H; refine s_move H wn rfl rfl ?_; clear H; intro a H; refine wl_nil ?_; refine loop_end ((k + 1, G16)) (by exact (H).sub ⟨rfl, rfl, rfl, rfl, trivial⟩) ?_ ?_
    · (try dsimp only); exact ⟨by omega, idx_next hk2 hno h16, fun b o h => hm16 b o (hgm b o h)⟩
    first | omega | (dsimp only; omega)
  intro h9
  try have p9 := of_decide_eq_false h9
  refine c_exit ?_; refine hK2 _ _ ?_; clear hK2; refine c_seqR (fun _ hK10 => ?_); refine s_assign H wn rfl rfl ?_; clear H; intro a H; refine hK10 _ _ ?_; clear hK10; refine c_ret ?_; refine (leave1 H Tryz.results164 (.cons (rv_tmp H rfl) .nil) ?_).1
  first
    | exact H.hp.ret (by rw [idx_stop hk2 hno h16]; rfl)
    | exact H.hp.ret (by rw [show l.take k = l from List.take_of_length_le (by omega)] at hno; rw [hno]; rfl)
def inRow (id : Int) (r : RowD) : Bool := (r.cells.findIdx? fun c => decide (c.id = id)).isSome
def isAt (id : Int) (x : ItemD) : Bool := decide (x.id = id) || (x.rows.findIdx? (inRow id)).isSome
/-- Where a flow stands. -/
def placeS (l : List ItemD) (id : Int) : Option (Int × Int) := ((pItems 0 0 l).find? fun a => isAt id a.2).map (·.1)
end
section
open Go.RowKit
/-- The least index from i on, below j, at which a test holds (halving). -/
def hvF (p : Nat → Bool) : Nat → Nat → Nat → Nat
  | 0, i, _ => i
  | f + 1, i, j => if i < j then (if p ((i + j) / 2) then hvF p f i ((i + j) / 2) else hvF p f ((i + j) / 2 + 1) j) else i
theorem hv_step {p : Nat → Bool} {f i j : Nat} (hf : j - i ≤ f) (h : i < j) : hvF p f i j = if p ((i + j) / 2) then hvF p (f - 1) i ((i + j) / 2) else hvF p (f - 1) ((i + j) / 2 + 1) j := by
  match f, hf with
  | 0, hf => omega
  | f + 1, _ => rw [hvF, if_pos h]; rfl
theorem hv_end {p : Nat → Bool} {f i j : Nat} (h : ¬ i < j) : hvF p f i j = i := by
  match f with
  | 0 => rfl
  | f + 1 => rw [hvF, if_neg h]
theorem hv_wrap {z : Int} (h1 : 0 ≤ z) (h2 : z < 18446744073709551616) : IntKind.u64.wrap z = z := by
  simp only [IntKind.wrap, IntKind.bits, IntKind.signed, Bool.false_and, Bool.false_eq_true, if_false]
  omega
theorem hv_shr (n : Nat) : ((n : Nat) : Int).fdiv (2 ^ 1) = ((n / 2 : Nat) : Int) := by
  rw [Int.fdiv_eq_ediv_of_nonneg _ (by decide)]; omega
/-- How two numbers compare. -/
def cmp3 (a b : Int) : Int := if a < b then -1 else if b < a then 1 else 0
theorem cmp3_lt {a b : Int} : cmp3 a b < 0 ↔ a < b := by
  unfold cmp3
  split
  · simp [*]
  · split <;> simp_all
theorem cmp3_eq {a b : Int} : cmp3 a b = 0 ↔ a = b := by
  unfold cmp3
  split
  · omega
  · split <;> omega
/-- The place that halving finds for a number, and whether the number is there. -/
def bsK (ks : List Int) (t : Int) : Nat := hvF (fun h => decide (¬ ks.getD h 0 < t)) ks.length 0 ks.length
def hasK (ks : List Int) (t : Int) : Bool := decide (ks[bsK ks t]? = some t)
theorem hasK_lt {ks : List Int} {t : Int} (h : hasK ks t = true) : bsK ks t < ks.length := by
  have := of_decide_eq_true h
  exact (List.getElem?_eq_some_iff.1 this).1
theorem hasK_in {ks : List Int} {t : Int} {n : Nat} (e : bsK ks t = n) (h : n < ks.length) : hasK ks t = decide (cmp3 ks[n] t = 0) := by
  unfold hasK
  rw [e, List.getElem?_eq_getElem h]
  simp [cmp3_eq]
theorem hasK_off {ks : List Int} {t : Int} {n : Nat} (e : bsK ks t = n) (h : ¬ n < ks.length) : hasK ks t = false := by
  unfold hasK
  rw [e, List.getElem?_eq_none (by omega)]
  simp
theorem getD_map {α : Type} {f : α → Int} {l : List α} {n : Nat} (h : n < l.length) : (l.map f).getD n 0 = f l[n] := by
  simp [List.getD, h]
end
section
open Go.RowKit
structure Siz (P : Program) (t : TypeId) : Prop where
  h : (P.info? t).map (fun j => j.size == 0) = some false
theorem Siz.parts {P : Program} {t : TypeId} (h : Siz P t) : ∃ j, P.info? t = some j ∧ j.size ≠ 0 := by
  obtain ⟨j, h1, h2⟩ := Option.map_eq_some_iff.1 h.h
  exact ⟨j, h1, by simpa using h2⟩
structure U8 (P : Program) (e : TypeId) : Prop where
  h : (P.info? e).map (fun i => (i.zero, i.size, i.bytes)) = some (some (.int .u8 0), 1, 1)
section
variable {N : Nat} {D : List Deferred} {w0 : World} {F : Nat → Prop} {G0 G : GH} {L Li Lo : OL} {T : List (Nat × Value)}
variable {r : Option Nat} {P : Program} {ops : Array Oper} {Q : Exit → Act → World → Prop} {rest : List Oper} {a : Act} {w : World}
variable {d : Nat} {ty : TypeId} {pos : String} {aft : Array Edge} {g : Option (Nat × Bool)}
theorem Hp.shape (h : Hp w0 F G0 G L w) {i b : Nat} {c : Array Value} {e : TypeId} {fz : Nat × Nat} (hi : L[i]? = some (b, .cells c e fz)) : w.shape? b = some (e, c.size) := by
  have := h.own _ (List.mem_of_getElem? hi)
  simp only at this
  simp [World.shape?, this]
theorem s_toUnsafe {t u te e : TypeId} {x : Operand} {b o : Nat} {c : Array Value} {fz : Nat × Nat} (hs : P.underlying t = some (.pointer te)) (hu : P.underlying u = some .unsafePointer) (hj : Siz P te) (H : St N D w0 F G0 G L T a w) (hw : Region.wanted ⟨some d, .convert t u x, ty, pos, aft, g⟩ (yielded ops a.tmps) = true)
    (hx : ev T x = some (.pointer (some ⟨b, o, none⟩))) (i : Nat) (hi : L[i]? = some (b, .cells c e fz)) (ho : Nat.blt o c.size = true) (hd : Nat.blt d N = true)
    (k : ∀ a', St N D w0 F G0 G L ((d, .pointer (some ⟨b, o, none⟩)) :: T) a' w → WL r P ops Q rest a' w) : WL r P ops Q (⟨some d, .convert t u x, ty, pos, aft, g⟩ :: rest) a w := by
  obtain ⟨j, h1, h2⟩ := hj.parts
  refine wl_value (v := .pointer (some ⟨b, o, none⟩)) (w' := w) hw rfl ?_ (k _ (H.put hd _ H.hp))
  have h := Lib.run_to_unsafe (P := P) w ⟨b, o, none⟩ hs hu h1 h2 (H.hp.shape hi) (Eq.mp Nat.blt_eq ho)
  simp only [execOp, H.ev hx, Sem.run_bind, h, Result.andThen_ok, Sem.run_pure]
theorem s_fromUnsafe {t u te e : TypeId} {x : Operand} {b o : Nat} {c : Array Value} {fz : Nat × Nat} (hs : P.underlying t = some .unsafePointer) (hu : P.underlying u = some (.pointer te)) (hj : Siz P te) (H : St N D w0 F G0 G L T a w) (hw : Region.wanted ⟨some d, .convert t u x, ty, pos, aft, g⟩ (yielded ops a.tmps) = true)
    (hx : ev T x = some (.pointer (some ⟨b, o, none⟩))) (i : Nat) (hi : L[i]? = some (b, .cells c e fz)) (hl : liesAt P P.depth e (c.size / P.cellsOf e) o te 1 = true) (hd : Nat.blt d N = true)
    (k : ∀ a', St N D w0 F G0 G L ((d, .pointer (some ⟨b, o, none⟩)) :: T) a' w → WL r P ops Q rest a' w) : WL r P ops Q (⟨some d, .convert t u x, ty, pos, aft, g⟩ :: rest) a w := by
  obtain ⟨j, h1, h2⟩ := hj.parts
  refine wl_value (v := .pointer (some ⟨b, o, none⟩)) (w' := w) hw rfl ?_ (k _ (H.put hd _ H.hp))
  have h := Lib.run_from_unsafe (P := P) w ⟨b, o, none⟩ hs hu h1 (H.hp.shape hi) hl
  simp only [execOp, H.ev hx, Sem.run_bind, h, Result.andThen_ok, Sem.run_pure]
/-- A function that the model runs in place, and that hands back its argument. -/
theorem s_noEscape {f : FuncId} {xs : List Operand} {v : Value} {ts : Array TypeId} (hcf : ∀ (w : World), (callFunc f #[v]).run P w = .ok (.value v) w) (H : St N D w0 F G0 G L T a w) (hw : Region.wanted ⟨some d, .call { callee := .value (.func f), args := xs.toArray, argTypes := ts }, ty, pos, aft, g⟩ (yielded ops a.tmps) = true)
    (hx : evs T xs = some [v]) (hd : Nat.blt d N = true)
    (k : ∀ a', St N D w0 F G0 G L ((d, v) :: T) a' w → WL r P ops Q rest a' w) : WL r P ops Q (⟨some d, .call { callee := .value (.func f), args := xs.toArray, argTypes := ts }, ty, pos, aft, g⟩ :: rest) a w := by
  refine wl_value (v := v) (w' := w) hw rfl ?_ (k _ (H.put hd _ H.hp))
  have h1 := H.evs hx
  simp [execOp, resolve, Act.eval, Deferred.ofValue, invoke, Sem.run_bind, h1, hcf]
theorem run_noEsc {f : FuncId} {fn : Func} (hf : P.funcs[f]? = some fn) (hname : (fn.name == "runtime.NumGoroutine") = false) (hb : fn.body.isNone = true) (hn : Extern.findNext fn = none) (he : Extern.find fn = some Extern.AbiNoEscape.same) (v : Value) (w : World) : (callFunc f #[v]).run P w = .ok (.value v) w := by
  rw [run_callFunc_extern hf hname hb hn he, Lib.run_noEscape]
  rfl
theorem s_eqnilp {t u te : TypeId} (hs : P.underlying t = some (.pointer te)) {x : Operand} {p : Option Addr} (H : St N D w0 F G0 G L T a w) (hw : Region.wanted ⟨some d, .binOp .eql t x (.const (.pointer none)) u, ty, pos, aft, g⟩ (yielded ops a.tmps) = true) (hx : ev T x = some (.pointer p)) (hd : Nat.blt d N = true)
    (k : ∀ a', St N D w0 F G0 G L ((d, .bool p.isNone) :: T) a' w → WL r P ops Q rest a' w) : WL r P ops Q (⟨some d, .binOp .eql t x (.const (.pointer none)) u, ty, pos, aft, g⟩ :: rest) a w := by
  refine wl_value (v := .bool p.isNone) (w' := w) hw rfl ?_ (k _ (H.put hd _ H.hp))
  have h1 : (Op.equal t (.pointer p) (.pointer none)).run P w = .ok p.isNone w := by
    show (Op.equalIn (9999 + 1) t (.pointer p) (.pointer none)).run P w = _
    rw [Op.equalIn.eq_2, Sem.run_bind, run_und hs]
    cases p <;> simp
  have h2 : (do eqGuard .eql t x (.const (.pointer none)) (.pointer p) (.pointer none); binOp .eql t (.pointer p) (.pointer none) : Sem Value).run P w = .ok (.bool p.isNone) w := by
    have e : (do eqGuard .eql t x (.const (.pointer none)) (.pointer p) (.pointer none); binOp .eql t (.pointer p) (.pointer none) : Sem Value) = (do pure (.bool (← Op.equal t (.pointer p) (.pointer none))) : Sem Value) := rfl
    rw [e, Sem.run_bind, h1]; rfl
  have e0 : execOp a.eval ⟨some d, .binOp .eql t x (.const (.pointer none)) u, ty, pos, aft, g⟩ = (do pure (.value (← (do eqGuard .eql t x (.const (.pointer none)) (.pointer p) (.pointer none); binOp .eql t (.pointer p) (.pointer none) : Sem Value))) : Sem Next) := by
    simp only [execOp, H.ev hx]; rfl
  rw [e0, Sem.run_bind, h2]
  rfl
theorem s_neqsame {t u te : TypeId} (hs : P.underlying t = some (.pointer te)) (hj : Siz P te) {x y : Operand} {p : Addr} (H : St N D w0 F G0 G L T a w) (hw : Region.wanted ⟨some d, .binOp .neq t x y u, ty, pos, aft, g⟩ (yielded ops a.tmps) = true) (hx : ev T x = some (.pointer (some p))) (hy : ev T y = some (.pointer (some p))) (hd : Nat.blt d N = true)
    (k : ∀ a', St N D w0 F G0 G L ((d, .bool false) :: T) a' w → WL r P ops Q rest a' w) : WL r P ops Q (⟨some d, .binOp .neq t x y u, ty, pos, aft, g⟩ :: rest) a w := by
  obtain ⟨j, h1, h2⟩ := hj.parts
  refine wl_value (v := .bool false) (w' := w) hw rfl ?_ (k _ (H.put hd _ H.hp))
  have h := Lib.run_neq_ptr_same (P := P) (w := w) p hs h1
  simp only [execOp, H.ev hx, H.ev hy]
  simp [Sem.run_bind, eqGuard, h]
/-- An append of a string's bytes. -/
theorem s_appendStr {t u e : TypeId} (hs : P.underlying t = some (.slice e)) (hu : P.underlying u = some .string) (ht : U8 P e) {x y : Operand} {v : Value} {n : Nat} {xs : List Value} {s : ByteArray} (H : St N D w0 F G0 G (Li ++ Lo) T a w)
    (hw : Region.wanted ⟨some d, .call { callee := .builtin .append, args := #[x, y], argTypes := #[t, u] }, ty, pos, aft, g⟩ (yielded ops a.tmps) = true) (hx : ev T x = some v) (hy : ev T y = some (.string s)) (hrow : IsRow e 1 v n xs Lo)
    (h63 : n + s.size ≤ 140737488355328) (hd : Nat.blt d N = true)
    (k : ∀ v' Lo' a' w', IsRow e 1 v' (n + s.size) (xs ++ Lib.strCells s) Lo' → St N D w0 F G0 G (Li ++ Lo') ((d, v') :: T) a' w' → WL r P ops Q rest a' w') :
    WL r P ops Q (⟨some d, .call { callee := .builtin .append, args := #[x, y], argTypes := #[t, u] }, ty, pos, aft, g⟩ :: rest) a w := by
  obtain ⟨i, hi, hz⟩ := Option.map_eq_some_iff.1 ht.h
  simp only [Prod.mk.injEq] at hz
  have hown := hrow.owns H.hp
  obtain ⟨v', w2, hrun, r1, r2, r3⟩ := Lib.run_append_own_string (P := P) (w := w) 0 t u ty e i hs hu hi hz.1 hz.2.1 hz.2.2 v n xs hown s (by simp only [maxLen]; omega) h63 (Nat.zero_le _)
  have hxl : xs.length = n := by simpa using hrow.1
  have hb : v'.ownBlock = v.ownBlock ∨ v'.ownBlock = some w.heap.size := by
    rcases hown.2 with ⟨hv, hn⟩ | ⟨g, cap, cur, hv, _, hg, hnc, hcm, hcs, _⟩
    · subst hv
      by_cases hm : s.size = 0
      · left; rw [r3.2 ⟨rfl, hm⟩]
      · right
        have hr := run_append_nil_string (P := P) w t u ty e i (.int .u8 0) hs hu hi hz.1 s (by omega) (by omega) (by rw [hz.2.2]; omega)
        rw [hrun] at hr
        injection hr with h1 h2
        rw [h1]; rfl
    · subst hv
      by_cases hroom : n + s.size ≤ cap
      · left
        have hcs' : cur.size = cap := by simpa using hcs
        have hr := Lib.run_append_room_string (P := P) (w := w) t u ty e i hs hu hi hz.2.1 g n cap cur hg s hroom (by omega)
        rw [hrun] at hr
        injection hr with h1 h2
        rw [h1]; rfl
      · right
        have holds : ∀ j u, xs[j]? = some u → w.cell? ((⟨g, 0, none⟩ : Addr).add j) = some u := hown.cells (g := g) rfl
        have hr := Lib.run_append_grow_string (P := P) (w := w) t u ty e i (.int .u8 0) hs hu hi hz.1 ⟨g, 0, none⟩ n cap xs (by rw [hz.2.1]; simpa using hxl) holds s (by omega) (by omega) (by rw [hz.2.2]; exact growslice_fits (by omega) (by omega))
        rw [hrun] at hr
        injection hr with h1 h2
        rw [h1]; rfl
  obtain ⟨Lo', hr, hch⟩ := change_row hrow H.hp.owns r1 r2 hb
  refine wl_value (v := v') (w' := w2) hw rfl ?_ (k v' Lo' _ w2 hr (H.put hd v' (H.hp.change hch)))
  simp [execOp, resolve, invoke, builtin, H.ev hx, H.ev hy, Sem.run_bind, hrun]
theorem s_sliceData {t : TypeId} {x : Operand} {p : Addr} {n c : Nat} (H : St N D w0 F G0 G L T a w) (hw : Region.wanted ⟨some d, .call { callee := .builtin .unsafeSliceData, args := #[x], argTypes := #[t] }, ty, pos, aft, g⟩ (yielded ops a.tmps) = true) (hx : ev T x = some (.slice (some p) n c)) (hc : c ≠ 0) (hd : Nat.blt d N = true)
    (k : ∀ a', St N D w0 F G0 G L ((d, .pointer (some p)) :: T) a' w → WL r P ops Q rest a' w) : WL r P ops Q (⟨some d, .call { callee := .builtin .unsafeSliceData, args := #[x], argTypes := #[t] }, ty, pos, aft, g⟩ :: rest) a w := by
  refine wl_value (v := .pointer (some p)) (w' := w) hw rfl ?_ (k _ (H.put hd _ H.hp))
  have h := Lib.run_unsafeSliceData_row (P := P) (w := w) #[t] ty p n c hc
  simp [execOp, resolve, invoke, builtin, H.ev hx, Sem.run_bind, h]
theorem upd_freeze {w : World} {b n : Nat} {c : Array Value} {e : TypeId} {fz : Nat × Nat} (h : w.heap[b]? = some (.cells c e fz)) (hn : n ≠ 0) : ∃ fz', Upd b (.cells c e fz') w (w.freeze ⟨b, 0, none⟩ n) := by
  unfold World.freeze
  rw [if_neg hn]
  refine ⟨if fz.1 == fz.2 then (0, 0 + n) else (min fz.1 0, max fz.2 (0 + n)), rfl, rfl, rfl, by simp, ?_, fun k hk => ?_⟩
  · simp [Array.getElem?_modify, h]
  · simp [Array.getElem?_modify, Ne.symm hk]
theorem s_unsafeString {pt it e : TypeId} {x y : Operand} {b i : Nat} {cur : Array Value} {fz : Nat × Nat} (l : List UInt8) (hp : P.underlying pt = some (.pointer e)) (hc : P.cellsOf e = 1) (h0 : l ≠ []) (h63 : l.length ≤ 9223372036854775807) (H : St N D w0 F G0 G L T a w)
    (hw : Region.wanted ⟨some d, .call { callee := .builtin .unsafeString, args := #[x, y], argTypes := #[pt, it] }, ty, pos, aft, g⟩ (yielded ops a.tmps) = true) (hx : ev T x = some (.pointer (some ⟨b, 0, none⟩))) (hy : ev T y = some (.int .i64 (l.length : Int)))
    (hi : L[i]? = some (b, .cells cur e fz)) (hl : cur.toList.take l.length = Lib.byteCells l) (hd : Nat.blt d N = true)
    (k : ∀ fz' a' w', St N D w0 F G0 G (L.set i (b, .cells cur e fz')) ((d, .string ⟨l.toArray⟩) :: T) a' w' → WL r P ops Q rest a' w') : WL r P ops Q (⟨some d, .call { callee := .builtin .unsafeString, args := #[x, y], argTypes := #[pt, it] }, ty, pos, aft, g⟩ :: rest) a w := by
  have hb := H.hp.own _ (List.mem_of_getElem? hi)
  simp only at hb
  have hlen : l.length ≤ cur.size := by
    have := congrArg List.length hl
    simp only [List.length_take, Lib.byteCells_length, Array.length_toList] at this
    omega
  obtain ⟨fz', hu⟩ := upd_freeze (n := l.length) hb (by simpa using h0)
  have h := Lib.run_unsafeString_row (P := P) w pt it ty e hp hc b cur.size (H.hp.shape hi) l h0 hlen h63 (fun j x hj => by
    rw [add_lit, Nat.zero_add]
    simp only [World.cell?, hb]
    have h2 : (cur.toList.take l.length)[j]? = some (.int .u8 x.toNat) := by rw [hl]; simp [Lib.byteCells, hj]
    rw [List.getElem?_take] at h2
    split at h2
    · simpa using h2
    · cases h2)
  refine wl_value (v := .string ⟨l.toArray⟩) (w' := w.freeze ⟨b, 0, none⟩ l.length) hw rfl ?_ (k fz' _ _ (H.put hd _ (H.hp.upd hi hu)))
  simp [execOp, resolve, invoke, builtin, H.ev hx, H.ev hy, Sem.run_bind, h]
theorem fillAll (sz n : Nat) : ∀ (css : List (List Value)) (k : Nat) (pre z : List Value), pre.length = k * sz → z.length = css.length * sz → (∀ c ∈ css, c.length = sz) → k + css.length = n →
    fillL ((List.range n).map fun i => (i * sz, sz)) (pre ++ z) ((css.zipIdx k).map fun p => (p.2, p.1)) = some (pre ++ css.flatten)
  | [], k, pre, z, _, hz, _, _ => by
    have : z = [] := List.eq_nil_of_length_eq_zero (by simpa using hz)
    subst this
    simp [fillL]
  | c :: css, k, pre, z, hp, hz, hc, hn => by
    have hcl := hc c List.mem_cons_self
    simp only [List.length_cons] at hz hn
    have hpl : ((List.range n).map fun i => (i * sz, sz))[k]? = some (k * sz, sz) := by
      rw [List.getElem?_map, List.getElem?_range (by omega)]; rfl
    have hz1 : z.length = sz + css.length * sz := by rw [hz, Nat.add_mul, Nat.one_mul, Nat.add_comm]
    have hle : k * sz + c.length ≤ (pre ++ z).length := by rw [List.length_append, hp, hcl]; omega
    have e1 : Nat.beq c.length sz = true := by rw [hcl]; exact Nat.beq_refl sz
    have e2 : Nat.ble (k * sz + c.length) (pre ++ z).length = true := Eq.mpr Nat.ble_eq hle
    rw [List.zipIdx_cons, List.map_cons]
    simp only [fillL, hpl, e1, e2, Bool.and_self, cond_true]
    have e3 : setRow (pre ++ z) (k * sz) c = (pre ++ c) ++ z.drop sz := by
      rw [setRow_eq _ _ _ hle, ← hp, List.take_left' rfl, List.drop_append, List.drop_of_length_le (by omega), List.nil_append, hcl]
      congr 2; omega
    rw [e3, fillAll sz n css (k + 1) (pre ++ c) (z.drop sz) (by rw [List.length_append, hp, hcl, Nat.succ_mul]) (by rw [List.length_drop]; omega) (fun q hq => hc q (List.mem_cons_of_mem _ hq)) (by omega)]
    simp
/-- A slice whose elements are all given. -/
theorem s_buildAll {t e : TypeId} {sz bytes : Nat} {zero : List Value} {agg : Bool} (hs : P.underlying t = some (.slice e)) (ht : Ty P e sz bytes zero agg) {n : Nat} {xs : List (Nat × Operand)} {vs : List (Nat × Value)} (css : List (List Value)) (H : St N D w0 F G0 G L T a w) (hw : Region.wanted ⟨some d, .buildSlice t n xs.toArray, ty, pos, aft, g⟩ (yielded ops a.tmps) = true)
    (hx : pts T xs = some vs) (hv : vs.map (fun x => (x.1, x.2.cells.toList)) = (css.zipIdx 0).map fun p => (p.2, p.1)) (hl : css.all (fun c => Nat.beq c.length sz) = true) (hcn : Nat.beq css.length n = true) (hn : Nat.ble (n * sz) 1000 = true) (hn0 : Nat.beq (n * sz) 0 = false) (hd : Nat.blt d N = true)
    (k : ∀ b a' w', w0.heap.size ≤ b → St N D w0 F G0 G ((b, .cells css.flatten.toArray e (0, 0)) :: L) ((d, .slice (some ⟨b, 0, none⟩) n n) :: T) a' w' → WL r P ops Q rest a' w') : WL r P ops Q (⟨some d, .buildSlice t n xs.toArray, ty, pos, aft, g⟩ :: rest) a w := by
  have hcn' : css.length = n := Nat.eq_of_beq_eq_true hcn
  refine s_buildSlice (vs' := (css.zipIdx 0).map fun p => (p.2, p.1)) hs ht ((List.range (n * sz)).map (fun i => zero[i % zero.length]!)) css.flatten H hw hx hv hn hn0 rfl (fun i q h => ?_) ?_ hd k
  · rw [List.getElem?_map] at h
    obtain ⟨j, hj, rfl⟩ := Option.map_eq_some_iff.1 h
    obtain ⟨h1, h2⟩ := List.getElem?_eq_some_iff.1 hj
    rw [List.getElem_range] at h2
    rw [h2]
  · have h := fillAll sz n css 0 [] ((List.range (n * sz)).map (fun i => zero[i % zero.length]!)) (by simp) (by simp [hcn']) (fun c hc => Nat.eq_of_beq_eq_true (List.all_eq_true.1 hl c hc)) (by omega)
    simpa using h
end
end
end Go.Proofs.YtlnhhlighgaapaaGreat
