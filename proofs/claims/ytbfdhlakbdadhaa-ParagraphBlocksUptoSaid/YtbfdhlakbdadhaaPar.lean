/-
  Package paragraph: the blocks of a flow.
-/
import Derived.Test.YtbfdhlakbdadhaaIdx
namespace Go.Proofs.Ytbfdhlakbdadhaa
open Go.RowKit
theorem ty47par : Ty Try.prog 47 11 176 [.int .i64 0, .int .i64 0, .int .i64 0, .string ⟨#[]⟩, .slice none 0 0, .int .i64 0, .int .i64 0, .slice none 0 0, .slice none 0 0, .slice none 0 0, .slice none 0 0] true := ⟨by kernel_rfl, by kernel_rfl⟩
theorem un28par : Try.prog.underlying 28 = some (.slice 47) := by kernel_rfl
theorem en11par : ∀ args w, (callFunc 11 args).run Try.prog w = .ok (.enter 11 args) w := enters Try.func11 rfl (by kernel_rfl)
theorem ty3par : Ty Try.prog 3 1 8 [.int .i64 0] false := ⟨by kernel_rfl, by kernel_rfl⟩
theorem sr37par : Srt Try.prog 37 [(0, 1), (1, 1), (2, 1), (3, 1)] [.int .i64 0, .int .i64 0, .int .i64 0, .bool false] := ⟨by kernel_rfl, by kernel_rfl⟩
theorem ty37par : Ty Try.prog 37 4 32 [.int .i64 0, .int .i64 0, .int .i64 0, .bool false] true := ⟨by kernel_rfl, by kernel_rfl⟩
theorem ty4par : Ty Try.prog 4 1 1 [.bool false] false := ⟨by kernel_rfl, by kernel_rfl⟩
theorem fd37_0par : Fld Try.prog 37 0 0 := ⟨by kernel_rfl⟩
theorem ty118par : Ty Try.prog 118 1 8 [.nilFunc] false := ⟨by kernel_rfl, by kernel_rfl⟩
theorem ty28par : Ty Try.prog 28 1 24 [.slice none 0 0] false := ⟨by kernel_rfl, by kernel_rfl⟩
theorem en41par : ∀ args w, (callFunc 41 args).run Try.prog w = .ok (.enter 41 args) w := enters Try.func41 rfl (by kernel_rfl)
theorem fd47_0par : Fld Try.prog 47 0 0 := ⟨by kernel_rfl⟩
theorem en46par : ∀ args w, (callFunc 46 args).run Try.prog w = .ok (.enter 46 args) w := enters Try.func46 rfl (by kernel_rfl)
theorem en45par : ∀ args w, (callFunc 45 args).run Try.prog w = .ok (.enter 45 args) w := enters Try.func45 rfl (by kernel_rfl)
theorem size_spec (G : GH) (w0 : World) (hG : Hold G w0) (x : ItemD) (cs : List Value) (hv : RepRow G x.dat cs) (hz : szR x.dat ≤ 4294967290) :
    Calls Try.prog 41 #[.agg cs.toArray] w0 (Ret w0 G fun u G' => u = vi (n1 x)) := by
  obtain ⟨pA, pn, pc, dA, dn, dc, yA, yn, yc, fA, fn, fc, rA, rn, rc, rfl, hh, hf, hr⟩ := hv.item
  refine enter (N := 12) (T := [(0, _)]) (F := fun k => k < w0.heap.size) (L := []) Try.func41 rfl Try.ntmps41 rfl rfl hG (fun _ h => h) (fun _ h => by cases h) (fun _ h => by cases h) (fun _ h => by cases h) List.Pairwise.nil ?_
  intro a H
  refine c_seq (fun _ hK1 => ?_)
  refine c_region ?_
  refine s_box (cs := [_, _, _, _, _, _, _, _, _, _, _]) H wn rfl rfl rfl ?_; clear H; intro b1 a w hb1 H
  refine s_assign H wn rfl rfl ?_; clear H; intro a H
  refine wl_nil ?_
  refine hK1 _ _ ?_; clear hK1
  refine c_seq (fun _ hK2 => ?_)
  refine c_region ?_
  refine s_loada ty47par (cs := [_, _, _, _, _, _, _, _, _, _, _]) H wn rfl rfl (H.hp.ocells 0 rfl rfl) rfl ?_; clear H; intro a H
  refine s_buildSlice un28par ty47par [_, _, _, _, _, _, _, _, _, _, _] [_, _, _, _, _, _, _, _, _, _, _] H wn rfl rfl rfl rfl rfl (by intro i q h; match i, h with | 0, h => exact h | n + 1, h => simp at h) rfl rfl ?_; clear H; intro b7 a w hb7 H
  obtain ⟨G7, hm7, hr7, H⟩ := H.giveOne (sz := 11) (d := x.dat) rfl hv
  refine s_call en11par H wn rfl (len_spec _ _ H.hp.ro [x] _ hr7 (by simp only [zItems, List.map_cons, List.map_nil, szRs]; omega)) rfl ?_; clear H
  rintro v8 G8 a w ⟨rfl, rfl⟩ hm8 H
  rw [lenS_one] at H
  refine s_move H wn rfl rfl ?_; clear H; intro a H
  refine s_extract H wn rfl rfl rfl ?_; clear H; intro a H
  refine s_extract H wn rfl rfl rfl ?_; clear H; intro a H
  refine s_assign H wn rfl rfl ?_; clear H; intro a H
  refine s_assign H wn rfl rfl ?_; clear H; intro a H
  refine wl_nil ?_
  refine hK2 _ _ ?_; clear hK2
  refine c_seq (fun _ hK3 => ?_)
  refine c_region ?_
  refine s_move H wn rfl rfl ?_; clear H; intro a H
  refine s_assign H wn rfl rfl ?_; clear H; intro a H
  refine wl_nil ?_
  refine hK3 _ _ ?_; clear hK3
  refine c_ret ?_
  refine (leave1 H Try.results41 (.cons (rv_tmp H rfl) .nil) ?_).1
  exact H.hp.ret rfl
structure BlkD where
  kind : Int
  from_ : Int
  to : Int
  mark : Bool
theorem BlkD.eq_iff (a b : BlkD) : (a.kind = b.kind ∧ a.from_ = b.from_ ∧ a.to = b.to ∧ a.mark = b.mark) ↔ a = b := by
  cases a; cases b; simp
instance : DecidableEq BlkD := fun a b => decidable_of_iff _ (BlkD.eq_iff a b)
def restL (fr at_ : Int) (lo : Bool) : List BlkD := if fr = at_ then [] else [⟨if lo then 4 else 1, fr, at_, false⟩]
/-- The blocks of a flow from an item on. -/
def blkS : Int → Int → Bool → List ItemD → List BlkD
  | fr, at_, lo, [] => restL fr at_ lo
  | fr, at_, lo, x :: l =>
    if x.kind = 2 then ⟨1, fr, at_ + 1, true⟩ :: blkS (at_ + 1) (at_ + n1 x) true l
    else if x.kind = 7 ∨ x.kind = 3 then restL fr at_ lo ++ ⟨if x.kind = 3 then 3 else 2, at_, at_ + 1, false⟩ :: blkS (at_ + 1) (at_ + n1 x) true l
    else blkS fr (at_ + n1 x) (lo && (decide (x.kind = 8) || decide (n1 x = 0))) l
def bkP (a : BlkD) : AP := fun args _ => args = [.agg #[vi a.kind, vi a.from_, vi a.to, .bool a.mark]]
theorem clo46 {fv : Value} {Gi : GH} {xs : List AP} {J : Nat → GH → OL → Prop} {Jx : GH → OL → Prop} (hcb : Cback Try.prog fv Gi xs J Jx) {bf ba bl by_ : Nat} {fr at_ : Int} {lo : Bool} {G : GH} {L : OL} {w0 : World} {j : Nat} (hGi : ∀ b o, Gi b = some o → G b = some o) (hJ : J j G L)
    (hO : Owns G ((bf, .cells #[vi fr] 3 (0, 0)) :: (ba, .cells #[vi at_] 3 (0, 0)) :: (bl, .cells #[.bool lo] 4 (0, 0)) :: L) w0) (hy : gcell G by_ 0 = some fv) (hx : ∀ i a, (restL fr at_ lo)[i]? = some a → xs[j + i]? = some (bkP a)) :
    CallV Try.prog (.func (.func 46) #[] #[.pointer (some ⟨bf, 0, none⟩), .pointer (some ⟨ba, 0, none⟩), .pointer (some ⟨bl, 0, none⟩), .pointer (some ⟨by_, 0, none⟩)]) [] w0
      (RetL w0 G ((bf, .cells #[vi fr] 3 (0, 0)) :: (ba, .cells #[vi at_] 3 (0, 0)) :: (bl, .cells #[.bool lo] 4 (0, 0)) :: L) fun u G' L' => ∃ b fr' lo' Lu, u = .bool b ∧ L' = (bf, .cells #[vi fr'] 3 (0, 0)) :: (ba, .cells #[vi at_] 3 (0, 0)) :: (bl, .cells #[.bool lo'] 4 (0, 0)) :: Lu ∧ (b = true → J (j + (restL fr at_ lo).length) G' Lu) ∧ (b = false → Jx G' Lu)) := by
  refine callV_func (caps := [.pointer (some ⟨bf, 0, none⟩), .pointer (some ⟨ba, 0, none⟩), .pointer (some ⟨bl, 0, none⟩), .pointer (some ⟨by_, 0, none⟩)]) (args := []) en46par ?_
  refine enterL (N := 18) (T := [(0, _), (1, _), (2, _), (3, _)]) Try.func46 rfl Try.ntmps46 rfl rfl hO ?_
  intro a H
  refine c_seq (fun _ hK1 => ?_)
  refine c_region ?_
  refine s_assign H wn rfl rfl ?_; clear H; intro a H
  refine wl_nil ?_
  refine hK1 _ _ ?_; clear hK1
  refine c_seq (fun _ hK2 => ?_)
  refine c_seq (fun _ hK3 => ?_)
  refine c_region ?_
  refine s_load ty3par H wn rfl (H.hp.ocell 0 rfl rfl) rfl ?_; clear H; intro a H
  refine s_load ty3par H wn rfl (H.hp.ocell 1 rfl rfl) rfl ?_; clear H; intro a H
  refine s_cmp H wn rfl rfl rfl rfl ?_; clear H; intro a H
  refine wl_nil ?_
  refine hK3 _ _ ?_; clear hK3
  refine c_cond H rfl ?_ ?_
  · intro h8
    try have p8 := of_decide_eq_true h8
    refine c_seq (fun _ hK4 => ?_)
    refine c_region ?_
    refine s_assign H wn rfl rfl ?_; clear H; intro a H
    refine wl_nil ?_
    refine hK4 _ _ ?_; clear hK4
    refine c_ret ?_
    refine (leave1 H Try.results46 (.cons (rv_tmp H rfl) .nil) ?_).1
    exact H.hp.retL ⟨true, _, _, L, rfl, rfl, fun _ => (by rw [restL, if_pos p8]; exact hJ), fun e => (by cases e)⟩
  · intro h8
    try have p8 := of_decide_eq_false h8
    refine c_skip ?_
    refine hK2 _ _ ?_; clear hK2
    refine c_seq (fun _ hK5 => ?_)
    refine c_region ?_
    refine s_load ty3par H wn rfl (H.hp.ocell 0 rfl rfl) rfl ?_; clear H; intro a H
    refine s_load ty3par H wn rfl (H.hp.ocell 1 rfl rfl) rfl ?_; clear H; intro a H
    refine s_build sr37par [_, _, _, _] H wn rfl rfl rfl rfl ?_; clear H; intro a H
    refine s_alloc ty37par H wn rfl ?_; clear H; intro b5 a w hb5 H
    refine s_store ty37par 0 (vs := [_, _, _, _]) _ H wn rfl rfl rfl rfl rfl rfl rfl rfl ?_; clear H; intro w H; dsimp only [List.set, setRow] at H
    refine wl_nil ?_
    refine hK5 _ _ ?_; clear hK5
    refine c_seq (fun _ hK6 => ?_)
    refine c_seq (fun _ hK7 => ?_)
    refine c_region ?_
    refine s_load ty4par H wn rfl (H.hp.ocell 3 rfl rfl) rfl ?_; clear H; intro a H
    refine wl_nil ?_
    refine hK7 _ _ ?_; clear hK7
    refine c_cond H rfl ?_ ?_
    · intro h12
      try have p12 := of_decide_eq_true h12
      refine c_region ?_
      refine s_field fd37_0par H wn rfl rfl ?_; clear H; intro a H
      refine s_store ty3par 0 (vs := [_]) _ H wn rfl rfl rfl rfl rfl rfl rfl rfl ?_; clear H; intro w H; dsimp only [List.set, setRow] at H
      refine wl_nil ?_
      refine hK6 _ _ ?_; clear hK6
      refine c_seq (fun _ hK8 => ?_)
      refine c_region ?_
      refine s_load ty3par H wn rfl (H.hp.ocell 2 rfl rfl) rfl ?_; clear H; intro a H
      refine s_store ty3par 1 (vs := [_]) _ H wn rfl rfl rfl rfl rfl rfl rfl rfl ?_; clear H; intro w H; dsimp only [List.set, setRow] at H
      refine s_store ty4par 3 (vs := [_]) _ H wn rfl rfl rfl rfl rfl rfl rfl rfl ?_; clear H; intro w H; dsimp only [List.set, setRow] at H
      refine wl_nil ?_
      refine hK8 _ _ ?_; clear hK8
      refine c_seq (fun _ hK9 => ?_)
      refine c_region ?_
      refine s_load ty118par H wn rfl (H.hp.gcell (by assumption)) rfl ?_; clear H; intro a H
      refine s_loada ty37par (cs := [_, _, _, _]) H wn rfl rfl (H.hp.ocells 0 rfl rfl) rfl ?_; clear H; intro a H
      refine s_callv (Li := [_, _, _, _]) (L := L) H wn rfl rfl (hcb j _ _ _ _ ⟨bkP ⟨if lo then 4 else 1, fr, at_, false⟩, hx 0 _ (by rw [restL, if_neg p8]; rfl), by unfold bkP; rw [h12]; rfl⟩ hGi hJ (Hp.owns (Li := [_, _, _, _]) H.hp)) rfl ?_; clear H
      rintro v17 G17 Lu a w ⟨b17, rfl, hb1, hb2⟩ hm17 H
      refine s_assign H wn rfl rfl ?_; clear H; intro a H
      refine wl_nil ?_
      refine hK9 _ _ ?_; clear hK9
      refine c_ret ?_
      refine (leave1 H Try.results46 (.cons (rv_tmp H rfl) .nil) ?_).1
      exact H.hp.retD (L' := (bf, _) :: (ba, _) :: (bl, _) :: Lu) (List.Sublist.cons _ (List.Sublist.refl _)) ⟨b17, _, _, Lu, rfl, rfl, fun e => (by rw [restL, if_neg p8]; exact hb1 e), hb2⟩
    · intro h12
      try have p12 := of_decide_eq_false h12
      refine c_skip ?_
      refine hK6 _ _ ?_; clear hK6
      refine c_seq (fun _ hK10 => ?_)
      refine c_region ?_
      refine s_load ty3par H wn rfl (H.hp.ocell 2 rfl rfl) rfl ?_; clear H; intro a H
      refine s_store ty3par 1 (vs := [_]) _ H wn rfl rfl rfl rfl rfl rfl rfl rfl ?_; clear H; intro w H; dsimp only [List.set, setRow] at H
      refine s_store ty4par 3 (vs := [_]) _ H wn rfl rfl rfl rfl rfl rfl rfl rfl ?_; clear H; intro w H; dsimp only [List.set, setRow] at H
      refine wl_nil ?_
      refine hK10 _ _ ?_; clear hK10
      refine c_seq (fun _ hK11 => ?_)
      refine c_region ?_
      refine s_load ty118par H wn rfl (H.hp.gcell (by assumption)) rfl ?_; clear H; intro a H
      refine s_loada ty37par (cs := [_, _, _, _]) H wn rfl rfl (H.hp.ocells 0 rfl rfl) rfl ?_; clear H; intro a H
      refine s_callv (Li := [_, _, _, _]) (L := L) H wn rfl rfl (hcb j _ _ _ _ ⟨bkP ⟨if lo then 4 else 1, fr, at_, false⟩, hx 0 _ (by rw [restL, if_neg p8]; rfl), by unfold bkP; rw [h12]; rfl⟩ hGi hJ (Hp.owns (Li := [_, _, _, _]) H.hp)) rfl ?_; clear H
      rintro v17 G17 Lu a w ⟨b17, rfl, hb1, hb2⟩ hm17 H
      refine s_assign H wn rfl rfl ?_; clear H; intro a H
      refine wl_nil ?_
      refine hK11 _ _ ?_; clear hK11
      refine c_ret ?_
      refine (leave1 H Try.results46 (.cons (rv_tmp H rfl) .nil) ?_).1
      exact H.hp.retD (L' := (bf, _) :: (ba, _) :: (bl, _) :: Lu) (List.Sublist.cons _ (List.Sublist.refl _)) ⟨b17, _, _, Lu, rfl, rfl, fun e => (by rw [restL, if_neg p8]; exact hb1 e), hb2⟩
theorem Now.up {α : Type} {xs : List AP} {P : α → AP} {J : Nat → GH → OL → Prop} {je j : Nat} {A : List α} {g g' : GH} {L : OL} (h : Now xs P J je j A g L) (hJm : JMono J) (hm : ∀ b o, g b = some o → g' b = some o) : Now xs P J je j A g' L := ⟨hJm _ _ _ _ hm h.now, h.rem, h.len⟩
theorem restL_len (fr at_ : Int) (lo : Bool) : (restL fr at_ lo).length ≤ 1 := by unfold restL; split <;> simp
theorem blkS_len : ∀ (l : List ItemD) (fr at_ : Int) (lo : Bool), (blkS fr at_ lo l).length ≤ 2 * l.length + 1
  | [], fr, at_, lo => by rw [blkS]; exact restL_len _ _ _
  | x :: l, fr, at_, lo => by
    have h := restL_len fr at_ lo
    rw [blkS]
    split
    · have := blkS_len l (at_ + 1) (at_ + n1 x) true; simp only [List.length_cons]; omega
    · split
      · have := blkS_len l (at_ + 1) (at_ + n1 x) true; simp only [List.length_append, List.length_cons]; omega
      · have := blkS_len l fr (at_ + n1 x) (lo && (decide (x.kind = 8) || decide (n1 x = 0))); simp only [List.length_cons]; omega
set_option maxHeartbeats 1000000 in
theorem blocks1_iter {G : GH} {bd : Nat} {l : List ItemD} {v : Value} (hb : gcell G bd 0 = some v) (hv : RepV G (.sl 11 (l.map ItemD.dat)) v) (hz : zItems l ≤ 4294967290) :
    Iter Try.prog G (.func (.func 45) #[] #[.pointer (some ⟨bd, 0, none⟩)]) ((blkS 0 0 true l).map bkP) := by
  intro J Jx fv G1 L w0 hfv hGi hJm hJx hJ hO hcb
  refine callV_func (caps := [.pointer (some ⟨bd, 0, none⟩)]) en45par ?_
  obtain ⟨A, c, rfl, hc1, hc2, hg⟩ := hv.slice
  rw [List.length_map] at *
  have hll := zItems_length l
  replace hb := gcell_mono hGi hb
  refine enterL (N := 70) (T := [(0, _), (1, _)]) Try.func45 rfl Try.ntmps45 rfl rfl hO ?_
  intro a H
  refine c_seq (fun _ hK1 => ?_)
  refine c_region ?_
  refine s_box (cs := [fv]) H wn rfl hfv rfl ?_; clear H; intro b2 a w hb2 H
  refine wl_nil ?_
  refine hK1 _ _ ?_; clear hK1
  refine c_seq (fun _ hK2 => ?_)
  refine c_region ?_
  refine s_alloc ty3par H wn rfl ?_; clear H; intro b3 a w hb3 H
  refine s_alloc ty3par H wn rfl ?_; clear H; intro b4 a w hb4 H
  refine s_alloc ty4par H wn rfl ?_; clear H; intro b5 a w hb5 H
  refine s_store ty3par 2 (vs := [_]) _ H wn rfl rfl rfl rfl rfl rfl rfl rfl ?_; clear H; intro w H; dsimp only [List.set, setRow] at H
  refine s_store ty3par 1 (vs := [_]) _ H wn rfl rfl rfl rfl rfl rfl rfl rfl ?_; clear H; intro w H; dsimp only [List.set, setRow] at H
  refine s_store ty4par 0 (vs := [_]) _ H wn rfl rfl rfl rfl rfl rfl rfl rfl ?_; clear H; intro w H; dsimp only [List.set, setRow] at H
  refine wl_nil ?_
  refine hK2 _ _ ?_; clear hK2
  refine c_seq (fun _ hK3 => ?_)
  have H := H.pickT (Pl := [_, _, _, _]) (Pl' := [_, _, _, _]) [3, 2, 1, 0] (by decide) rfl
  obtain ⟨Ga, hma, hb2, H⟩ := H.giveBox
  have hy : gcell Ga b2 0 = some fv := by unfold gcell; rw [hb2]; rfl
  replace hb := gcell_mono hma hb
  refine c_region ?_
  refine s_makeFunc H wn rfl rfl ?_; clear H; intro a H
  refine s_assign H wn rfl rfl ?_; clear H; intro a H
  refine wl_nil ?_
  refine hK3 _ _ ?_; clear hK3
  refine c_seq (fun _ hK4 => ?_)
  refine c_seq (fun _ hK5 => ?_)
  refine c_region ?_
  refine s_load ty28par H wn rfl (H.hp.gcell (by assumption)) rfl ?_; clear H; intro a H
  refine s_len un28par H wn rfl rfl ?_; clear H; intro a H
  refine s_move H wn rfl rfl ?_; clear H; intro a H
  refine wl_nil ?_
  refine hK5 _ _ ?_; clear hK5
  refine c_block ?_
  skip
  refine c_loopS (ι := Nat × Int × Int × Bool × Nat × OL × GH) (Tc := [(2, _), (3, _), (4, _), (5, _), (6, _), (12, _), (13, _)]) (Lc := []) (fun (gh : Nat × Int × Int × Bool × Nat × OL × GH) => [(14, vi gh.1)]) (fun (gh : Nat × Int × Int × Bool × Nat × OL × GH) => [(b3, .cells #[vi gh.2.1] 3 (0, 0)), (b4, .cells #[vi gh.2.2.1] 3 (0, 0)), (b5, .cells #[.bool gh.2.2.2.1] 4 (0, 0))] ++ gh.2.2.2.2.2.1) (fun (gh : Nat × Int × Int × Bool × Nat × OL × GH) => gh.2.2.2.2.2.2) (fun (gh : Nat × Int × Int × Bool × Nat × OL × GH) => gh.1 ≤ l.length ∧ (∀ b o, Ga b = some o → gh.2.2.2.2.2.2 b = some o) ∧ Now ((blkS 0 0 true l).map bkP) bkP J (blkS 0 0 true l).length gh.2.2.2.2.1 (blkS gh.2.1 gh.2.2.1 gh.2.2.2.1 (l.drop gh.1)) gh.2.2.2.2.2.2 gh.2.2.2.2.2.1 ∧ 0 ≤ gh.2.2.1 ∧ gh.2.2.1 + zItems (l.drop gh.1) ≤ 4294967290) (fun (gh : Nat × Int × Int × Bool × Nat × OL × GH) => l.length - gh.1) ((0, 0, 0, true, 0, L, Ga)) (by exact (H).sub ⟨rfl, rfl, rfl, rfl, rfl, rfl, rfl, rfl, trivial⟩) ?_ ?_
  · exact ⟨by omega, fun _ _ h => h, ⟨hJm _ _ _ _ hma hJ, fun i a h => by rw [Nat.zero_add, List.getElem?_map]; rw [List.drop_zero] at h; rw [h]; rfl, by simp⟩, Int.le_refl _, by simp; omega⟩
  · clear H; intro gh a w hI H
    obtain ⟨k, fr, at_, lo, j1, Lt, g⟩ := gh; dsimp only at hI H
    obtain ⟨hk, hgm, hnow, hat0, hat⟩ := hI
    dsimp only [List.cons_append, List.nil_append, List.append_nil] at H
    refine c_seq (fun _ hK6 => ?_)
    refine c_region ?_
    refine s_cmp H wn rfl rfl rfl rfl ?_; clear H; intro a H
    refine wl_nil ?_
    refine hK6 _ _ ?_; clear hK6
    refine c_seq (fun _ hK7 => ?_)
    refine c_cond H rfl ?_ ?_
    · intro h15
      try have p15 := of_decide_eq_true h15
      have hk2 : k < l.length := by omega
      obtain ⟨b, o, pA, pn, pc, dA, dn, dc, yA, yn, yc, fA, fn, fc, rA, rn, rc, rfl, hrow, hhd, hfl, hrw⟩ := flow_get hk2 hg
      have hgm0 : ∀ b o, G b = some o → g b = some o := fun b o h => hgm b o (hma b o (hGi b o h))
      replace hrow := fun j u hj => gcell_mono hgm0 (hrow j u hj)
      have hsz2 := zItems_mem (List.getElem_mem hk2)
      have hn1 := n1_le l[k]
      rw [List.drop_eq_getElem_cons hk2] at hnow hat
      rw [zItems, List.map_cons, szRs] at hat
      rw [blkS] at hnow
      refine c_skip ?_
      refine hK7 _ _ ?_; clear hK7
      refine c_seq (fun _ hK8 => ?_)
      refine c_block ?_
      refine c_seq (fun _ hK9 => ?_)
      refine c_region ?_
      refine s_index un28par ty47par _ H wn rfl rfl rfl (by first | assumption | omega) rfl ?_; clear H; intro a H
      refine s_loada ty47par (cs := [_, _, _, _, _, _, _, _, _, _, _]) H wn rfl rfl (fun j v hj => H.hp.gcell (hrow j v hj)) rfl ?_; clear H; intro a H
      refine s_alloc ty47par H wn rfl ?_; clear H; intro b8 a w hb8 H
      refine s_store ty47par 0 (vs := [_, _, _, _, _, _, _, _, _, _, _]) _ H wn rfl rfl rfl rfl rfl rfl rfl rfl ?_; clear H; intro w H; dsimp only [List.set, setRow] at H
      refine wl_nil ?_
      refine hK9 _ _ ?_; clear hK9
      refine c_seq (fun _ hK10 => ?_)
      refine c_region ?_
      refine s_loada ty47par (cs := [_, _, _, _, _, _, _, _, _, _, _]) H wn rfl rfl (H.hp.ocells 0 rfl rfl) rfl ?_; clear H; intro a H
      refine s_call en41par H wn rfl (size_spec _ _ H.hp.ro l[k] _ (RepRow.mkItem (hhd.mono hgm0) (hfl.mono hgm0) (hrw.mono hgm0)) (by omega)) rfl ?_; clear H
      rintro v19 G19 a w rfl hm19 H
      replace hnow := hnow.up hJm hm19
      have hgm1 : ∀ b o, G1 b = some o → G19 b = some o := fun b o h => hm19 b o (hgm b o (hma b o h))
      have hy19 := gcell_mono (fun b o h => hm19 b o (hgm b o h)) hy
      refine s_assign H wn rfl rfl ?_; clear H; intro a H
      refine wl_nil ?_
      refine hK10 _ _ ?_; clear hK10
      refine c_seq (fun _ hK11 => ?_)
      refine c_seq (fun _ hK12 => ?_)
      refine c_region ?_
      refine s_field fd47_0par H wn rfl rfl ?_; clear H; intro a H
      refine s_load ty3par H wn rfl (H.hp.ocell 0 rfl rfl) rfl ?_; clear H; intro a H
      refine wl_nil ?_
      refine hK12 _ _ ?_; clear hK12
      refine c_block ?_
      refine c_seq (fun _ hK13 => ?_)
      refine c_region ?_
      refine s_cmp H wn rfl rfl rfl rfl ?_; clear H; intro a H
      refine s_assign H wn rfl rfl ?_; clear H; intro a H
      refine wl_nil ?_
      refine hK13 _ _ ?_; clear hK13
      refine c_cond H rfl ?_ ?_
      · intro h32
        try have p32 := of_decide_eq_true h32
        rw [if_pos p32] at hnow
        refine c_seq (fun _ hK14 => ?_)
        refine c_seq (fun _ hK15 => ?_)
        refine c_region ?_
        refine s_load ty118par H wn rfl (H.hp.gcell (by assumption)) rfl ?_; clear H; intro a H
        refine s_load ty3par H wn rfl (H.hp.ocell 1 rfl rfl) rfl ?_; clear H; intro a H
        refine s_load ty3par H wn rfl (H.hp.ocell 2 rfl rfl) rfl ?_; clear H; intro a H
        refine s_add _ H wn rfl rfl rfl (by omega) (by omega) rfl ?_; clear H; intro a H
        refine s_build sr37par [_, _, _, _] H wn rfl rfl rfl rfl ?_; clear H; intro a H
        refine s_callv (Li := [_, _, _, _]) (L := Lt) H wn rfl rfl (hcb j1 _ _ _ _ ⟨_, hnow.head, rfl⟩ hgm1 hnow.now (Hp.owns (Li := [_, _, _, _]) H.hp)) rfl ?_; clear H
        rintro v39 G39 Lt39 a w ⟨b39, rfl, hb1, hb2⟩ hm39 H
        have hy39 := gcell_mono hm39 hy19
        refine s_not H wn rfl rfl ?_; clear H; intro a H
        refine wl_nil ?_
        refine hK15 _ _ ?_; clear hK15
        refine c_cond H rfl ?_ ?_
        · intro h40
          try have p40 := of_decide_eq_true h40
          refine c_ret ?_
          refine (leave0 H Try.results45 ?_).1
          first
            | exact H.hp.retD (L' := Lt39) (by repeat (first | exact List.Sublist.refl _ | apply List.Sublist.cons)) (.inr (hb2 (by simpa using h40)))
            | exact H.hp.retD (L' := Lu50) (by repeat (first | exact List.Sublist.refl _ | apply List.Sublist.cons)) (.inr (hb2 (by simpa using h52)))
            | exact H.hp.retD (L' := Lt59) (by repeat (first | exact List.Sublist.refl _ | apply List.Sublist.cons)) (.inr (hb4 (by simpa using h61)))
            | (cases b69
               · exact H.hp.retD (L' := Lu69) (by repeat (first | exact List.Sublist.refl _ | apply List.Sublist.cons)) (.inr (hb2 rfl))
               · exact H.hp.retD (L' := Lu69) (by repeat (first | exact List.Sublist.refl _ | apply List.Sublist.cons)) (.inl (by have := hnow.len; (try rw [List.length_map]); rw [← this]; exact hb1 rfl)))
        · intro h40
          try have p40 := of_decide_eq_false h40
          refine c_skip ?_
          refine hK14 _ _ ?_; clear hK14
          refine c_region ?_
          refine s_load ty3par H wn rfl (H.hp.ocell 2 rfl rfl) rfl ?_; clear H; intro a H
          refine s_add _ H wn rfl rfl rfl (by omega) (by omega) rfl ?_; clear H; intro a H
          refine s_store ty3par 1 (vs := [_]) _ H wn rfl rfl rfl rfl rfl rfl rfl rfl ?_; clear H; intro w H; dsimp only [List.set, setRow] at H
          refine s_store ty4par 3 (vs := [_]) _ H wn rfl rfl rfl rfl rfl rfl rfl rfl ?_; clear H; intro w H; dsimp only [List.set, setRow] at H
          refine wl_nil ?_
          refine hK11 _ _ ?_; clear hK11
          refine c_region ?_
          refine s_load ty3par H wn rfl (H.hp.ocell 2 rfl rfl) rfl ?_; clear H; intro a H
          refine s_move H wn rfl rfl ?_; clear H; intro a H
          refine s_add _ H wn rfl rfl rfl (by omega) (by omega) rfl ?_; clear H; intro a H
          refine s_store ty3par 2 (vs := [_]) _ H wn rfl rfl rfl rfl rfl rfl rfl rfl ?_; clear H; intro w H; dsimp only [List.set, setRow] at H
          refine wl_nil ?_
          refine hK8 _ _ ?_; clear hK8
          refine c_region ?_
          refine s_add _ H wn rfl rfl rfl (by omega) (by omega) rfl ?_; clear H; intro a H
          refine s_move H wn rfl rfl ?_; clear H; intro a H
          refine wl_nil ?_
          refine loop_end ((k + 1, at_ + 1, at_ + n1 l[k], true, j1 + 1, Lt39, G39)) (by exact (H.pickT (Pl := [_, _, _, _]) (Pl' := [_, _, _]) [1, 2, 3] (by decide) rfl).sub ⟨rfl, rfl, rfl, rfl, rfl, rfl, rfl, rfl, trivial⟩) ?_ ?_
          · try dsimp only
            exact ⟨by omega, fun b o h => hm39 b o (hm19 b o (hgm b o h)), hnow.step (hb1 (by simpa using h40)), by omega, by show at_ + (n1 l[k] : Int) + (szRs ((l.drop (k + 1)).map ItemD.dat) : Nat) ≤ 4294967290; omega⟩
          · first | omega | (dsimp only; omega)
      · intro h32
        try have p32 := of_decide_eq_false h32
        refine c_seq (fun _ hK16 => ?_)
        refine c_seq (fun _ hK17 => ?_)
        refine c_region ?_
        refine s_cmp H wn rfl rfl rfl rfl ?_; clear H; intro a H
        refine s_assign H wn rfl rfl ?_; clear H; intro a H
        refine wl_nil ?_
        refine hK17 _ _ ?_; clear hK17
        refine c_cond H rfl ?_ ?_
        · intro h43
          try have p43 := of_decide_eq_true h43
          have h73 : l[k].kind = 7 ∨ l[k].kind = 3 := by first | exact .inl p43 | exact .inr p43
          rw [if_neg p32, if_pos h73] at hnow
          refine c_skip ?_
          refine hK16 _ _ ?_; clear hK16
          refine c_cond_t H rfl h43 ?_
          refine c_seq (fun _ hK18 => ?_)
          refine c_region ?_
          refine s_assign H wn rfl rfl ?_; clear H; intro a H
          refine wl_nil ?_
          refine hK18 _ _ ?_; clear hK18
          refine c_seq (fun _ hK19 => ?_)
          refine c_seq (fun _ hK20 => ?_)
          refine c_region ?_
          refine s_field fd47_0par H wn rfl rfl ?_; clear H; intro a H
          refine s_load ty3par H wn rfl (H.hp.ocell 0 rfl rfl) rfl ?_; clear H; intro a H
          refine s_cmp H wn rfl rfl rfl rfl ?_; clear H; intro a H
          refine wl_nil ?_
          refine hK20 _ _ ?_; clear hK20
          refine c_cond H rfl ?_ ?_
          · intro h48
            try have p48 := of_decide_eq_true h48
            refine c_region ?_
            refine s_assign H wn rfl rfl ?_; clear H; intro a H
            refine wl_nil ?_
            refine hK19 _ _ ?_; clear hK19
            refine c_seq (fun _ hK21 => ?_)
            refine c_seq (fun _ hK22 => ?_)
            refine c_region ?_
            refine s_move H wn rfl rfl ?_; clear H; intro a H
            refine s_callv (Li := [_]) (L := (b3, _) :: (b4, _) :: (b5, _) :: Lt) H wn rfl rfl (clo46 hcb hgm1 hnow.now (Hp.owns (Li := [_]) H.hp) hy19 hnow.part) rfl ?_; clear H
            rintro v50 G50 L50 a w ⟨b50, fr50, lo50, Lu50, rfl, rfl, hb1, hb2⟩ hm50 H
            dsimp only [List.cons_append, List.nil_append] at H
            have hy50 := gcell_mono hm50 hy19
            refine s_not H wn rfl rfl ?_; clear H; intro a H
            refine s_move H wn rfl rfl ?_; clear H; intro a H
            refine s_split H 52 rfl ?_ ?_
            · intro h52
              try have p52 := of_decide_eq_true h52
              refine s_skip H rfl rfl h52 rfl ?_; clear H; intro a H
              refine s_skip H rfl rfl h52 rfl ?_; clear H; intro a H
              refine s_skip H rfl rfl h52 rfl ?_; clear H; intro a H
              refine s_skip H rfl rfl h52 rfl ?_; clear H; intro a H
              refine s_skip H rfl rfl h52 rfl ?_; clear H; intro a H
              refine s_skip H rfl rfl h52 rfl ?_; clear H; intro a H
              refine s_skip H rfl rfl h52 rfl ?_; clear H; intro a H
              refine s_skip H rfl rfl h52 rfl ?_; clear H; intro a H
              refine s_pick_t H wn rfl h52 rfl rfl ?_; clear H; intro a H
              refine wl_nil ?_
              refine hK22 _ _ ?_; clear hK22
              refine c_cond_t H rfl rfl ?_
              refine c_ret ?_
              refine (leave0 H Try.results45 ?_).1
              first
                | exact H.hp.retD (L' := Lt39) (by repeat (first | exact List.Sublist.refl _ | apply List.Sublist.cons)) (.inr (hb2 (by simpa using h40)))
                | exact H.hp.retD (L' := Lu50) (by repeat (first | exact List.Sublist.refl _ | apply List.Sublist.cons)) (.inr (hb2 (by simpa using h52)))
                | exact H.hp.retD (L' := Lt59) (by repeat (first | exact List.Sublist.refl _ | apply List.Sublist.cons)) (.inr (hb4 (by simpa using h61)))
                | (cases b69
                   · exact H.hp.retD (L' := Lu69) (by repeat (first | exact List.Sublist.refl _ | apply List.Sublist.cons)) (.inr (hb2 rfl))
                   · exact H.hp.retD (L' := Lu69) (by repeat (first | exact List.Sublist.refl _ | apply List.Sublist.cons)) (.inl (by have := hnow.len; (try rw [List.length_map]); rw [← this]; exact hb1 rfl)))
            · intro h52
              try have p52 := of_decide_eq_false h52
              have hnow3 := hnow.jump (hb1 (by simpa using h52))
              refine s_load ty118par H (wg H rfl rfl h52) rfl (H.hp.gcell (by assumption)) rfl ?_; clear H; intro a H
              refine s_move H (wg H rfl rfl h52) rfl rfl ?_; clear H; intro a H
              refine s_load ty3par H (wg H rfl rfl h52) rfl (H.hp.ocell 2 rfl rfl) rfl ?_; clear H; intro a H
              refine s_load ty3par H (wg H rfl rfl h52) rfl (H.hp.ocell 2 rfl rfl) rfl ?_; clear H; intro a H
              refine s_add _ H (wg H rfl rfl h52) rfl rfl rfl (by omega) (by omega) rfl ?_; clear H; intro a H
              refine s_build sr37par [_, _, _, _] H (wg H rfl rfl h52) rfl rfl rfl rfl ?_; clear H; intro a H
              refine s_callv (Li := [_, _, _, _]) (L := Lu50) H (wg H rfl rfl h52) rfl rfl (hcb _ _ _ _ _ ⟨_, hnow3.head, by unfold bkP; (first | rw [if_pos p48] | rw [if_neg p48]); rfl⟩ (fun b o h => hm50 b o (hgm1 b o h)) hnow3.now (Hp.owns (Li := [_, _, _, _]) H.hp)) rfl ?_; clear H
              rintro v59 G59 Lt59 a w ⟨b59, rfl, hb3, hb4⟩ hm59 H
              refine s_not H (wg H rfl rfl h52) rfl rfl ?_; clear H; intro a H
              refine s_pick_f H wn rfl h52 rfl rfl ?_; clear H; intro a H
              refine wl_nil ?_
              refine hK22 _ _ ?_; clear hK22
              refine c_cond H rfl ?_ ?_
              · intro h61
                try have p61 := of_decide_eq_true h61
                refine c_ret ?_
                refine (leave0 H Try.results45 ?_).1
                first
                  | exact H.hp.retD (L' := Lt39) (by repeat (first | exact List.Sublist.refl _ | apply List.Sublist.cons)) (.inr (hb2 (by simpa using h40)))
                  | exact H.hp.retD (L' := Lu50) (by repeat (first | exact List.Sublist.refl _ | apply List.Sublist.cons)) (.inr (hb2 (by simpa using h52)))
                  | exact H.hp.retD (L' := Lt59) (by repeat (first | exact List.Sublist.refl _ | apply List.Sublist.cons)) (.inr (hb4 (by simpa using h61)))
                  | (cases b69
                     · exact H.hp.retD (L' := Lu69) (by repeat (first | exact List.Sublist.refl _ | apply List.Sublist.cons)) (.inr (hb2 rfl))
                     · exact H.hp.retD (L' := Lu69) (by repeat (first | exact List.Sublist.refl _ | apply List.Sublist.cons)) (.inl (by have := hnow.len; (try rw [List.length_map]); rw [← this]; exact hb1 rfl)))
              · intro h61
                try have p61 := of_decide_eq_false h61
                refine c_skip ?_
                refine hK21 _ _ ?_; clear hK21
                refine c_region ?_
                refine s_load ty3par H wn rfl (H.hp.ocell 2 rfl rfl) rfl ?_; clear H; intro a H
                refine s_add _ H wn rfl rfl rfl (by omega) (by omega) rfl ?_; clear H; intro a H
                refine s_store ty3par 1 (vs := [_]) _ H wn rfl rfl rfl rfl rfl rfl rfl rfl ?_; clear H; intro w H; dsimp only [List.set, setRow] at H
                refine s_store ty4par 3 (vs := [_]) _ H wn rfl rfl rfl rfl rfl rfl rfl rfl ?_; clear H; intro w H; dsimp only [List.set, setRow] at H
                refine wl_nil ?_
                refine hK11 _ _ ?_; clear hK11
                refine c_region ?_
                refine s_load ty3par H wn rfl (H.hp.ocell 2 rfl rfl) rfl ?_; clear H; intro a H
                refine s_move H wn rfl rfl ?_; clear H; intro a H
                refine s_add _ H wn rfl rfl rfl (by omega) (by omega) rfl ?_; clear H; intro a H
                refine s_store ty3par 2 (vs := [_]) _ H wn rfl rfl rfl rfl rfl rfl rfl rfl ?_; clear H; intro w H; dsimp only [List.set, setRow] at H
                refine wl_nil ?_
                refine hK8 _ _ ?_; clear hK8
                refine c_region ?_
                refine s_add _ H wn rfl rfl rfl (by omega) (by omega) rfl ?_; clear H; intro a H
                refine s_move H wn rfl rfl ?_; clear H; intro a H
                refine wl_nil ?_
                refine loop_end ((k + 1, at_ + 1, at_ + n1 l[k], true, j1 + (restL fr at_ lo).length + 1, Lt59, G59)) (by exact (H.pickT (Pl := [_, _, _, _]) (Pl' := [_, _, _]) [1, 2, 3] (by decide) rfl).sub ⟨rfl, rfl, rfl, rfl, rfl, rfl, rfl, rfl, trivial⟩) ?_ ?_
                · try dsimp only
                  exact ⟨by omega, fun b o h => hm59 b o (hm50 b o (hm19 b o (hgm b o h))), hnow3.step (hb3 (by simpa using h61)), by omega, by show at_ + (n1 l[k] : Int) + (szRs ((l.drop (k + 1)).map ItemD.dat) : Nat) ≤ 4294967290; omega⟩
                · first | omega | (dsimp only; omega)
          · intro h48
            try have p48 := of_decide_eq_false h48
            refine c_skip ?_
            refine hK19 _ _ ?_; clear hK19
            refine c_seq (fun _ hK23 => ?_)
            refine c_seq (fun _ hK24 => ?_)
            refine c_region ?_
            refine s_move H wn rfl rfl ?_; clear H; intro a H
            refine s_callv (Li := [_]) (L := (b3, _) :: (b4, _) :: (b5, _) :: Lt) H wn rfl rfl (clo46 hcb hgm1 hnow.now (Hp.owns (Li := [_]) H.hp) hy19 hnow.part) rfl ?_; clear H
            rintro v50 G50 L50 a w ⟨b50, fr50, lo50, Lu50, rfl, rfl, hb1, hb2⟩ hm50 H
            dsimp only [List.cons_append, List.nil_append] at H
            have hy50 := gcell_mono hm50 hy19
            refine s_not H wn rfl rfl ?_; clear H; intro a H
            refine s_move H wn rfl rfl ?_; clear H; intro a H
            refine s_split H 52 rfl ?_ ?_
            · intro h52
              try have p52 := of_decide_eq_true h52
              refine s_skip H rfl rfl h52 rfl ?_; clear H; intro a H
              refine s_skip H rfl rfl h52 rfl ?_; clear H; intro a H
              refine s_skip H rfl rfl h52 rfl ?_; clear H; intro a H
              refine s_skip H rfl rfl h52 rfl ?_; clear H; intro a H
              refine s_skip H rfl rfl h52 rfl ?_; clear H; intro a H
              refine s_skip H rfl rfl h52 rfl ?_; clear H; intro a H
              refine s_skip H rfl rfl h52 rfl ?_; clear H; intro a H
              refine s_skip H rfl rfl h52 rfl ?_; clear H; intro a H
              refine s_pick_t H wn rfl h52 rfl rfl ?_; clear H; intro a H
              refine wl_nil ?_
              refine hK24 _ _ ?_; clear hK24
              refine c_cond_t H rfl rfl ?_
              refine c_ret ?_
              refine (leave0 H Try.results45 ?_).1
              first
                | exact H.hp.retD (L' := Lt39) (by repeat (first | exact List.Sublist.refl _ | apply List.Sublist.cons)) (.inr (hb2 (by simpa using h40)))
                | exact H.hp.retD (L' := Lu50) (by repeat (first | exact List.Sublist.refl _ | apply List.Sublist.cons)) (.inr (hb2 (by simpa using h52)))
                | exact H.hp.retD (L' := Lt59) (by repeat (first | exact List.Sublist.refl _ | apply List.Sublist.cons)) (.inr (hb4 (by simpa using h61)))
                | (cases b69
                   · exact H.hp.retD (L' := Lu69) (by repeat (first | exact List.Sublist.refl _ | apply List.Sublist.cons)) (.inr (hb2 rfl))
                   · exact H.hp.retD (L' := Lu69) (by repeat (first | exact List.Sublist.refl _ | apply List.Sublist.cons)) (.inl (by have := hnow.len; (try rw [List.length_map]); rw [← this]; exact hb1 rfl)))
            · intro h52
              try have p52 := of_decide_eq_false h52
              have hnow3 := hnow.jump (hb1 (by simpa using h52))
              refine s_load ty118par H (wg H rfl rfl h52) rfl (H.hp.gcell (by assumption)) rfl ?_; clear H; intro a H
              refine s_move H (wg H rfl rfl h52) rfl rfl ?_; clear H; intro a H
              refine s_load ty3par H (wg H rfl rfl h52) rfl (H.hp.ocell 2 rfl rfl) rfl ?_; clear H; intro a H
              refine s_load ty3par H (wg H rfl rfl h52) rfl (H.hp.ocell 2 rfl rfl) rfl ?_; clear H; intro a H
              refine s_add _ H (wg H rfl rfl h52) rfl rfl rfl (by omega) (by omega) rfl ?_; clear H; intro a H
              refine s_build sr37par [_, _, _, _] H (wg H rfl rfl h52) rfl rfl rfl rfl ?_; clear H; intro a H
              refine s_callv (Li := [_, _, _, _]) (L := Lu50) H (wg H rfl rfl h52) rfl rfl (hcb _ _ _ _ _ ⟨_, hnow3.head, by unfold bkP; (first | rw [if_pos p48] | rw [if_neg p48]); rfl⟩ (fun b o h => hm50 b o (hgm1 b o h)) hnow3.now (Hp.owns (Li := [_, _, _, _]) H.hp)) rfl ?_; clear H
              rintro v59 G59 Lt59 a w ⟨b59, rfl, hb3, hb4⟩ hm59 H
              refine s_not H (wg H rfl rfl h52) rfl rfl ?_; clear H; intro a H
              refine s_pick_f H wn rfl h52 rfl rfl ?_; clear H; intro a H
              refine wl_nil ?_
              refine hK24 _ _ ?_; clear hK24
              refine c_cond H rfl ?_ ?_
              · intro h61
                try have p61 := of_decide_eq_true h61
                refine c_ret ?_
                refine (leave0 H Try.results45 ?_).1
                first
                  | exact H.hp.retD (L' := Lt39) (by repeat (first | exact List.Sublist.refl _ | apply List.Sublist.cons)) (.inr (hb2 (by simpa using h40)))
                  | exact H.hp.retD (L' := Lu50) (by repeat (first | exact List.Sublist.refl _ | apply List.Sublist.cons)) (.inr (hb2 (by simpa using h52)))
                  | exact H.hp.retD (L' := Lt59) (by repeat (first | exact List.Sublist.refl _ | apply List.Sublist.cons)) (.inr (hb4 (by simpa using h61)))
                  | (cases b69
                     · exact H.hp.retD (L' := Lu69) (by repeat (first | exact List.Sublist.refl _ | apply List.Sublist.cons)) (.inr (hb2 rfl))
                     · exact H.hp.retD (L' := Lu69) (by repeat (first | exact List.Sublist.refl _ | apply List.Sublist.cons)) (.inl (by have := hnow.len; (try rw [List.length_map]); rw [← this]; exact hb1 rfl)))
              · intro h61
                try have p61 := of_decide_eq_false h61
                refine c_skip ?_
                refine hK23 _ _ ?_; clear hK23
                refine c_region ?_
                refine s_load ty3par H wn rfl (H.hp.ocell 2 rfl rfl) rfl ?_; clear H; intro a H
                refine s_add _ H wn rfl rfl rfl (by omega) (by omega) rfl ?_; clear H; intro a H
                refine s_store ty3par 1 (vs := [_]) _ H wn rfl rfl rfl rfl rfl rfl rfl rfl ?_; clear H; intro w H; dsimp only [List.set, setRow] at H
                refine s_store ty4par 3 (vs := [_]) _ H wn rfl rfl rfl rfl rfl rfl rfl rfl ?_; clear H; intro w H; dsimp only [List.set, setRow] at H
                refine wl_nil ?_
                refine hK11 _ _ ?_; clear hK11
                refine c_region ?_
                refine s_load ty3par H wn rfl (H.hp.ocell 2 rfl rfl) rfl ?_; clear H; intro a H
                refine s_move H wn rfl rfl ?_; clear H; intro a H
                refine s_add _ H wn rfl rfl rfl (by omega) (by omega) rfl ?_; clear H; intro a H
                refine s_store ty3par 2 (vs := [_]) _ H wn rfl rfl rfl rfl rfl rfl rfl rfl ?_; clear H; intro w H; dsimp only [List.set, setRow] at H
                refine wl_nil ?_
                refine hK8 _ _ ?_; clear hK8
                refine c_region ?_
                refine s_add _ H wn rfl rfl rfl (by omega) (by omega) rfl ?_; clear H; intro a H
                refine s_move H wn rfl rfl ?_; clear H; intro a H
                refine wl_nil ?_
                refine loop_end ((k + 1, at_ + 1, at_ + n1 l[k], true, j1 + (restL fr at_ lo).length + 1, Lt59, G59)) (by exact (H.pickT (Pl := [_, _, _, _]) (Pl' := [_, _, _]) [1, 2, 3] (by decide) rfl).sub ⟨rfl, rfl, rfl, rfl, rfl, rfl, rfl, rfl, trivial⟩) ?_ ?_
                · try dsimp only
                  exact ⟨by omega, fun b o h => hm59 b o (hm50 b o (hm19 b o (hgm b o h))), hnow3.step (hb3 (by simpa using h61)), by omega, by show at_ + (n1 l[k] : Int) + (szRs ((l.drop (k + 1)).map ItemD.dat) : Nat) ≤ 4294967290; omega⟩
                · first | omega | (dsimp only; omega)
        · intro h43
          try have p43 := of_decide_eq_false h43
          first
            | (have hn7 : ¬ l[k].kind = 7 := p43)
            | (have hn3 : ¬ l[k].kind = 3 := p43)
          refine c_region ?_
          refine s_cmp H wn rfl rfl rfl rfl ?_; clear H; intro a H
          refine s_assign H wn rfl rfl ?_; clear H; intro a H
          refine wl_nil ?_
          refine hK16 _ _ ?_; clear hK16
          refine c_cond H rfl ?_ ?_
          · intro h43
            try have p43 := of_decide_eq_true h43
            have h73 : l[k].kind = 7 ∨ l[k].kind = 3 := by first | exact .inl p43 | exact .inr p43
            rw [if_neg p32, if_pos h73] at hnow
            refine c_seq (fun _ hK25 => ?_)
            refine c_region ?_
            refine s_assign H wn rfl rfl ?_; clear H; intro a H
            refine wl_nil ?_
            refine hK25 _ _ ?_; clear hK25
            refine c_seq (fun _ hK26 => ?_)
            refine c_seq (fun _ hK27 => ?_)
            refine c_region ?_
            refine s_field fd47_0par H wn rfl rfl ?_; clear H; intro a H
            refine s_load ty3par H wn rfl (H.hp.ocell 0 rfl rfl) rfl ?_; clear H; intro a H
            refine s_cmp H wn rfl rfl rfl rfl ?_; clear H; intro a H
            refine wl_nil ?_
            refine hK27 _ _ ?_; clear hK27
            refine c_cond H rfl ?_ ?_
            · intro h48
              try have p48 := of_decide_eq_true h48
              refine c_region ?_
              refine s_assign H wn rfl rfl ?_; clear H; intro a H
              refine wl_nil ?_
              refine hK26 _ _ ?_; clear hK26
              refine c_seq (fun _ hK28 => ?_)
              refine c_seq (fun _ hK29 => ?_)
              refine c_region ?_
              refine s_move H wn rfl rfl ?_; clear H; intro a H
              refine s_callv (Li := [_]) (L := (b3, _) :: (b4, _) :: (b5, _) :: Lt) H wn rfl rfl (clo46 hcb hgm1 hnow.now (Hp.owns (Li := [_]) H.hp) hy19 hnow.part) rfl ?_; clear H
              rintro v50 G50 L50 a w ⟨b50, fr50, lo50, Lu50, rfl, rfl, hb1, hb2⟩ hm50 H
              dsimp only [List.cons_append, List.nil_append] at H
              have hy50 := gcell_mono hm50 hy19
              refine s_not H wn rfl rfl ?_; clear H; intro a H
              refine s_move H wn rfl rfl ?_; clear H; intro a H
              refine s_split H 52 rfl ?_ ?_
              · intro h52
                try have p52 := of_decide_eq_true h52
                refine s_skip H rfl rfl h52 rfl ?_; clear H; intro a H
                refine s_skip H rfl rfl h52 rfl ?_; clear H; intro a H
                refine s_skip H rfl rfl h52 rfl ?_; clear H; intro a H
                refine s_skip H rfl rfl h52 rfl ?_; clear H; intro a H
                refine s_skip H rfl rfl h52 rfl ?_; clear H; intro a H
                refine s_skip H rfl rfl h52 rfl ?_; clear H; intro a H
                refine s_skip H rfl rfl h52 rfl ?_; clear H; intro a H
                refine s_skip H rfl rfl h52 rfl ?_; clear H; intro a H
                refine s_pick_t H wn rfl h52 rfl rfl ?_; clear H; intro a H
                refine wl_nil ?_
                refine hK29 _ _ ?_; clear hK29
                refine c_cond_t H rfl rfl ?_
                refine c_ret ?_
                refine (leave0 H Try.results45 ?_).1
                first
                  | exact H.hp.retD (L' := Lt39) (by repeat (first | exact List.Sublist.refl _ | apply List.Sublist.cons)) (.inr (hb2 (by simpa using h40)))
                  | exact H.hp.retD (L' := Lu50) (by repeat (first | exact List.Sublist.refl _ | apply List.Sublist.cons)) (.inr (hb2 (by simpa using h52)))
                  | exact H.hp.retD (L' := Lt59) (by repeat (first | exact List.Sublist.refl _ | apply List.Sublist.cons)) (.inr (hb4 (by simpa using h61)))
                  | (cases b69
                     · exact H.hp.retD (L' := Lu69) (by repeat (first | exact List.Sublist.refl _ | apply List.Sublist.cons)) (.inr (hb2 rfl))
                     · exact H.hp.retD (L' := Lu69) (by repeat (first | exact List.Sublist.refl _ | apply List.Sublist.cons)) (.inl (by have := hnow.len; (try rw [List.length_map]); rw [← this]; exact hb1 rfl)))
              · intro h52
                try have p52 := of_decide_eq_false h52
                have hnow3 := hnow.jump (hb1 (by simpa using h52))
                refine s_load ty118par H (wg H rfl rfl h52) rfl (H.hp.gcell (by assumption)) rfl ?_; clear H; intro a H
                refine s_move H (wg H rfl rfl h52) rfl rfl ?_; clear H; intro a H
                refine s_load ty3par H (wg H rfl rfl h52) rfl (H.hp.ocell 2 rfl rfl) rfl ?_; clear H; intro a H
                refine s_load ty3par H (wg H rfl rfl h52) rfl (H.hp.ocell 2 rfl rfl) rfl ?_; clear H; intro a H
                refine s_add _ H (wg H rfl rfl h52) rfl rfl rfl (by omega) (by omega) rfl ?_; clear H; intro a H
                refine s_build sr37par [_, _, _, _] H (wg H rfl rfl h52) rfl rfl rfl rfl ?_; clear H; intro a H
                refine s_callv (Li := [_, _, _, _]) (L := Lu50) H (wg H rfl rfl h52) rfl rfl (hcb _ _ _ _ _ ⟨_, hnow3.head, by unfold bkP; (first | rw [if_pos p48] | rw [if_neg p48]); rfl⟩ (fun b o h => hm50 b o (hgm1 b o h)) hnow3.now (Hp.owns (Li := [_, _, _, _]) H.hp)) rfl ?_; clear H
                rintro v59 G59 Lt59 a w ⟨b59, rfl, hb3, hb4⟩ hm59 H
                refine s_not H (wg H rfl rfl h52) rfl rfl ?_; clear H; intro a H
                refine s_pick_f H wn rfl h52 rfl rfl ?_; clear H; intro a H
                refine wl_nil ?_
                refine hK29 _ _ ?_; clear hK29
                refine c_cond H rfl ?_ ?_
                · intro h61
                  try have p61 := of_decide_eq_true h61
                  refine c_ret ?_
                  refine (leave0 H Try.results45 ?_).1
                  first
                    | exact H.hp.retD (L' := Lt39) (by repeat (first | exact List.Sublist.refl _ | apply List.Sublist.cons)) (.inr (hb2 (by simpa using h40)))
                    | exact H.hp.retD (L' := Lu50) (by repeat (first | exact List.Sublist.refl _ | apply List.Sublist.cons)) (.inr (hb2 (by simpa using h52)))
                    | exact H.hp.retD (L' := Lt59) (by repeat (first | exact List.Sublist.refl _ | apply List.Sublist.cons)) (.inr (hb4 (by simpa using h61)))
                    | (cases b69
                       · exact H.hp.retD (L' := Lu69) (by repeat (first | exact List.Sublist.refl _ | apply List.Sublist.cons)) (.inr (hb2 rfl))
                       · exact H.hp.retD (L' := Lu69) (by repeat (first | exact List.Sublist.refl _ | apply List.Sublist.cons)) (.inl (by have := hnow.len; (try rw [List.length_map]); rw [← this]; exact hb1 rfl)))
                · intro h61
                  try have p61 := of_decide_eq_false h61
                  refine c_skip ?_
                  refine hK28 _ _ ?_; clear hK28
                  refine c_region ?_
                  refine s_load ty3par H wn rfl (H.hp.ocell 2 rfl rfl) rfl ?_; clear H; intro a H
                  refine s_add _ H wn rfl rfl rfl (by omega) (by omega) rfl ?_; clear H; intro a H
                  refine s_store ty3par 1 (vs := [_]) _ H wn rfl rfl rfl rfl rfl rfl rfl rfl ?_; clear H; intro w H; dsimp only [List.set, setRow] at H
                  refine s_store ty4par 3 (vs := [_]) _ H wn rfl rfl rfl rfl rfl rfl rfl rfl ?_; clear H; intro w H; dsimp only [List.set, setRow] at H
                  refine wl_nil ?_
                  refine hK11 _ _ ?_; clear hK11
                  refine c_region ?_
                  refine s_load ty3par H wn rfl (H.hp.ocell 2 rfl rfl) rfl ?_; clear H; intro a H
                  refine s_move H wn rfl rfl ?_; clear H; intro a H
                  refine s_add _ H wn rfl rfl rfl (by omega) (by omega) rfl ?_; clear H; intro a H
                  refine s_store ty3par 2 (vs := [_]) _ H wn rfl rfl rfl rfl rfl rfl rfl rfl ?_; clear H; intro w H; dsimp only [List.set, setRow] at H
                  refine wl_nil ?_
                  refine hK8 _ _ ?_; clear hK8
                  refine c_region ?_
                  refine s_add _ H wn rfl rfl rfl (by omega) (by omega) rfl ?_; clear H; intro a H
                  refine s_move H wn rfl rfl ?_; clear H; intro a H
                  refine wl_nil ?_
                  refine loop_end ((k + 1, at_ + 1, at_ + n1 l[k], true, j1 + (restL fr at_ lo).length + 1, Lt59, G59)) (by exact (H.pickT (Pl := [_, _, _, _]) (Pl' := [_, _, _]) [1, 2, 3] (by decide) rfl).sub ⟨rfl, rfl, rfl, rfl, rfl, rfl, rfl, rfl, trivial⟩) ?_ ?_
                  · try dsimp only
                    exact ⟨by omega, fun b o h => hm59 b o (hm50 b o (hm19 b o (hgm b o h))), hnow3.step (hb3 (by simpa using h61)), by omega, by show at_ + (n1 l[k] : Int) + (szRs ((l.drop (k + 1)).map ItemD.dat) : Nat) ≤ 4294967290; omega⟩
                  · first | omega | (dsimp only; omega)
            · intro h48
              try have p48 := of_decide_eq_false h48
              refine c_skip ?_
              refine hK26 _ _ ?_; clear hK26
              refine c_seq (fun _ hK30 => ?_)
              refine c_seq (fun _ hK31 => ?_)
              refine c_region ?_
              refine s_move H wn rfl rfl ?_; clear H; intro a H
              refine s_callv (Li := [_]) (L := (b3, _) :: (b4, _) :: (b5, _) :: Lt) H wn rfl rfl (clo46 hcb hgm1 hnow.now (Hp.owns (Li := [_]) H.hp) hy19 hnow.part) rfl ?_; clear H
              rintro v50 G50 L50 a w ⟨b50, fr50, lo50, Lu50, rfl, rfl, hb1, hb2⟩ hm50 H
              dsimp only [List.cons_append, List.nil_append] at H
              have hy50 := gcell_mono hm50 hy19
              refine s_not H wn rfl rfl ?_; clear H; intro a H
              refine s_move H wn rfl rfl ?_; clear H; intro a H
              refine s_split H 52 rfl ?_ ?_
              · intro h52
                try have p52 := of_decide_eq_true h52
                refine s_skip H rfl rfl h52 rfl ?_; clear H; intro a H
                refine s_skip H rfl rfl h52 rfl ?_; clear H; intro a H
                refine s_skip H rfl rfl h52 rfl ?_; clear H; intro a H
                refine s_skip H rfl rfl h52 rfl ?_; clear H; intro a H
                refine s_skip H rfl rfl h52 rfl ?_; clear H; intro a H
                refine s_skip H rfl rfl h52 rfl ?_; clear H; intro a H
                refine s_skip H rfl rfl h52 rfl ?_; clear H; intro a H
                refine s_skip H rfl rfl h52 rfl ?_; clear H; intro a H
                refine s_pick_t H wn rfl h52 rfl rfl ?_; clear H; intro a H
                refine wl_nil ?_
                refine hK31 _ _ ?_; clear hK31
                refine c_cond_t H rfl rfl ?_
                refine c_ret ?_
                refine (leave0 H Try.results45 ?_).1
                first
                  | exact H.hp.retD (L' := Lt39) (by repeat (first | exact List.Sublist.refl _ | apply List.Sublist.cons)) (.inr (hb2 (by simpa using h40)))
                  | exact H.hp.retD (L' := Lu50) (by repeat (first | exact List.Sublist.refl _ | apply List.Sublist.cons)) (.inr (hb2 (by simpa using h52)))
                  | exact H.hp.retD (L' := Lt59) (by repeat (first | exact List.Sublist.refl _ | apply List.Sublist.cons)) (.inr (hb4 (by simpa using h61)))
                  | (cases b69
                     · exact H.hp.retD (L' := Lu69) (by repeat (first | exact List.Sublist.refl _ | apply List.Sublist.cons)) (.inr (hb2 rfl))
                     · exact H.hp.retD (L' := Lu69) (by repeat (first | exact List.Sublist.refl _ | apply List.Sublist.cons)) (.inl (by have := hnow.len; (try rw [List.length_map]); rw [← this]; exact hb1 rfl)))
              · intro h52
                try have p52 := of_decide_eq_false h52
                have hnow3 := hnow.jump (hb1 (by simpa using h52))
                refine s_load ty118par H (wg H rfl rfl h52) rfl (H.hp.gcell (by assumption)) rfl ?_; clear H; intro a H
                refine s_move H (wg H rfl rfl h52) rfl rfl ?_; clear H; intro a H
                refine s_load ty3par H (wg H rfl rfl h52) rfl (H.hp.ocell 2 rfl rfl) rfl ?_; clear H; intro a H
                refine s_load ty3par H (wg H rfl rfl h52) rfl (H.hp.ocell 2 rfl rfl) rfl ?_; clear H; intro a H
                refine s_add _ H (wg H rfl rfl h52) rfl rfl rfl (by omega) (by omega) rfl ?_; clear H; intro a H
                refine s_build sr37par [_, _, _, _] H (wg H rfl rfl h52) rfl rfl rfl rfl ?_; clear H; intro a H
                refine s_callv (Li := [_, _, _, _]) (L := Lu50) H (wg H rfl rfl h52) rfl rfl (hcb _ _ _ _ _ ⟨_, hnow3.head, by unfold bkP; (first | rw [if_pos p48] | rw [if_neg p48]); rfl⟩ (fun b o h => hm50 b o (hgm1 b o h)) hnow3.now (Hp.owns (Li := [_, _, _, _]) H.hp)) rfl ?_; clear H
                rintro v59 G59 Lt59 a w ⟨b59, rfl, hb3, hb4⟩ hm59 H
                refine s_not H (wg H rfl rfl h52) rfl rfl ?_; clear H; intro a H
                refine s_pick_f H wn rfl h52 rfl rfl ?_; clear H; intro a H
                refine wl_nil ?_
                refine hK31 _ _ ?_; clear hK31
                refine c_cond H rfl ?_ ?_
                · intro h61
                  try have p61 := of_decide_eq_true h61
                  refine c_ret ?_
                  refine (leave0 H Try.results45 ?_).1
                  first
                    | exact H.hp.retD (L' := Lt39) (by repeat (first | exact List.Sublist.refl _ | apply List.Sublist.cons)) (.inr (hb2 (by simpa using h40)))
                    | exact H.hp.retD (L' := Lu50) (by repeat (first | exact List.Sublist.refl _ | apply List.Sublist.cons)) (.inr (hb2 (by simpa using h52)))
                    | exact H.hp.retD (L' := Lt59) (by repeat (first | exact List.Sublist.refl _ | apply List.Sublist.cons)) (.inr (hb4 (by simpa using h61)))
                    | (cases b69
                       · exact H.hp.retD (L' := Lu69) (by repeat (first | exact List.Sublist.refl _ | apply List.Sublist.cons)) (.inr (hb2 rfl))
                       · exact H.hp.retD (L' := Lu69) (by repeat (first | exact List.Sublist.refl _ | apply List.Sublist.cons)) (.inl (by have := hnow.len; (try rw [List.length_map]); rw [← this]; exact hb1 rfl)))
                · intro h61
                  try have p61 := of_decide_eq_false h61
                  refine c_skip ?_
                  refine hK30 _ _ ?_; clear hK30
                  refine c_region ?_
                  refine s_load ty3par H wn rfl (H.hp.ocell 2 rfl rfl) rfl ?_; clear H; intro a H
                  refine s_add _ H wn rfl rfl rfl (by omega) (by omega) rfl ?_; clear H; intro a H
                  refine s_store ty3par 1 (vs := [_]) _ H wn rfl rfl rfl rfl rfl rfl rfl rfl ?_; clear H; intro w H; dsimp only [List.set, setRow] at H
                  refine s_store ty4par 3 (vs := [_]) _ H wn rfl rfl rfl rfl rfl rfl rfl rfl ?_; clear H; intro w H; dsimp only [List.set, setRow] at H
                  refine wl_nil ?_
                  refine hK11 _ _ ?_; clear hK11
                  refine c_region ?_
                  refine s_load ty3par H wn rfl (H.hp.ocell 2 rfl rfl) rfl ?_; clear H; intro a H
                  refine s_move H wn rfl rfl ?_; clear H; intro a H
                  refine s_add _ H wn rfl rfl rfl (by omega) (by omega) rfl ?_; clear H; intro a H
                  refine s_store ty3par 2 (vs := [_]) _ H wn rfl rfl rfl rfl rfl rfl rfl rfl ?_; clear H; intro w H; dsimp only [List.set, setRow] at H
                  refine wl_nil ?_
                  refine hK8 _ _ ?_; clear hK8
                  refine c_region ?_
                  refine s_add _ H wn rfl rfl rfl (by omega) (by omega) rfl ?_; clear H; intro a H
                  refine s_move H wn rfl rfl ?_; clear H; intro a H
                  refine wl_nil ?_
                  refine loop_end ((k + 1, at_ + 1, at_ + n1 l[k], true, j1 + (restL fr at_ lo).length + 1, Lt59, G59)) (by exact (H.pickT (Pl := [_, _, _, _]) (Pl' := [_, _, _]) [1, 2, 3] (by decide) rfl).sub ⟨rfl, rfl, rfl, rfl, rfl, rfl, rfl, rfl, trivial⟩) ?_ ?_
                  · try dsimp only
                    exact ⟨by omega, fun b o h => hm59 b o (hm50 b o (hm19 b o (hgm b o h))), hnow3.step (hb3 (by simpa using h61)), by omega, by show at_ + (n1 l[k] : Int) + (szRs ((l.drop (k + 1)).map ItemD.dat) : Nat) ≤ 4294967290; omega⟩
                  · first | omega | (dsimp only; omega)
          · intro h43
            try have p43 := of_decide_eq_false h43
            first
              | (have hn7 : ¬ l[k].kind = 7 := p43)
              | (have hn3 : ¬ l[k].kind = 3 := p43)
            refine c_region ?_
            refine s_load ty4par H wn rfl (H.hp.ocell 3 rfl rfl) rfl ?_; clear H; intro a H
            refine s_move H wn rfl rfl ?_; clear H; intro a H
            refine s_split H 23 rfl ?_ ?_
            · intro h23
              try have p23 := of_decide_eq_true h23
              refine s_field fd47_0par H (wg H rfl rfl h23) rfl rfl ?_; clear H; intro a H
              refine s_load ty3par H (wg H rfl rfl h23) rfl (H.hp.ocell 0 rfl rfl) rfl ?_; clear H; intro a H
              refine s_cmp H (wg H rfl rfl h23) rfl rfl rfl rfl ?_; clear H; intro a H
              refine s_move H (wg H rfl rfl h23) rfl rfl ?_; clear H; intro a H
              refine s_split H 27 rfl ?_ ?_
              · intro h27
                try have p27 := of_decide_eq_true h27
                refine s_skip H rfl rfl h27 rfl ?_; clear H; intro a H
                refine s_skip H rfl rfl h27 rfl ?_; clear H; intro a H
                refine s_pick_t H (wg H rfl rfl h23) rfl h27 rfl rfl ?_; clear H; intro a H
                refine s_pick_t H wn rfl h23 rfl rfl ?_; clear H; intro a H
                refine s_store ty4par 3 (vs := [_]) _ H wn rfl rfl rfl rfl rfl rfl rfl rfl ?_; clear H; intro w H; dsimp only [List.set, setRow] at H
                refine wl_nil ?_
                refine hK11 _ _ ?_; clear hK11
                refine c_region ?_
                refine s_load ty3par H wn rfl (H.hp.ocell 2 rfl rfl) rfl ?_; clear H; intro a H
                refine s_move H wn rfl rfl ?_; clear H; intro a H
                refine s_add _ H wn rfl rfl rfl (by omega) (by omega) rfl ?_; clear H; intro a H
                refine s_store ty3par 2 (vs := [_]) _ H wn rfl rfl rfl rfl rfl rfl rfl rfl ?_; clear H; intro w H; dsimp only [List.set, setRow] at H
                refine wl_nil ?_
                refine hK8 _ _ ?_; clear hK8
                refine c_region ?_
                refine s_add _ H wn rfl rfl rfl (by omega) (by omega) rfl ?_; clear H; intro a H
                refine s_move H wn rfl rfl ?_; clear H; intro a H
                refine wl_nil ?_
                refine loop_end ((k + 1, fr, at_ + n1 l[k], true, j1, Lt, G19)) (by exact (H.pickT (Pl := [_, _, _, _]) (Pl' := [_, _, _]) [1, 2, 3] (by decide) rfl).sub ⟨rfl, rfl, rfl, rfl, rfl, rfl, rfl, rfl, trivial⟩) ?_ ?_
                · try dsimp only
                  exact ⟨by omega, fun b o h => hm19 b o (hgm b o h), by rw [if_neg p32, if_neg (by omega), h23, decide_eq_true p27] at hnow; exact hnow, by omega, by show at_ + (n1 l[k] : Int) + (szRs ((l.drop (k + 1)).map ItemD.dat) : Nat) ≤ 4294967290; omega⟩
                · first | omega | (dsimp only; omega)
              · intro h27
                try have p27 := of_decide_eq_false h27
                refine s_move H (wg H rfl rfl h27) rfl rfl ?_; clear H; intro a H
                refine s_cmp H (wg H rfl rfl h27) rfl rfl rfl rfl ?_; clear H; intro a H
                refine s_pick_f H (wg H rfl rfl h23) rfl h27 rfl rfl ?_; clear H; intro a H
                refine s_pick_t H wn rfl h23 rfl rfl ?_; clear H; intro a H
                refine s_store ty4par 3 (vs := [_]) _ H wn rfl rfl rfl rfl rfl rfl rfl rfl ?_; clear H; intro w H; dsimp only [List.set, setRow] at H
                refine wl_nil ?_
                refine hK11 _ _ ?_; clear hK11
                refine c_region ?_
                refine s_load ty3par H wn rfl (H.hp.ocell 2 rfl rfl) rfl ?_; clear H; intro a H
                refine s_move H wn rfl rfl ?_; clear H; intro a H
                refine s_add _ H wn rfl rfl rfl (by omega) (by omega) rfl ?_; clear H; intro a H
                refine s_store ty3par 2 (vs := [_]) _ H wn rfl rfl rfl rfl rfl rfl rfl rfl ?_; clear H; intro w H; dsimp only [List.set, setRow] at H
                refine wl_nil ?_
                refine hK8 _ _ ?_; clear hK8
                refine c_region ?_
                refine s_add _ H wn rfl rfl rfl (by omega) (by omega) rfl ?_; clear H; intro a H
                refine s_move H wn rfl rfl ?_; clear H; intro a H
                refine wl_nil ?_
                refine loop_end ((k + 1, fr, at_ + n1 l[k], decide ((n1 l[k] : Int) = 0), j1, Lt, G19)) (by exact (H.pickT (Pl := [_, _, _, _]) (Pl' := [_, _, _]) [1, 2, 3] (by decide) rfl).sub ⟨rfl, rfl, rfl, rfl, rfl, rfl, rfl, rfl, trivial⟩) ?_ ?_
                · try dsimp only
                  exact ⟨by omega, fun b o h => hm19 b o (hgm b o h), by rw [if_neg p32, if_neg (by omega), h23, decide_eq_false p27, Bool.true_and, Bool.false_or, show decide (n1 l[k] = 0) = decide ((n1 l[k] : Int) = 0) by simp] at hnow; exact hnow, by omega, by show at_ + (n1 l[k] : Int) + (szRs ((l.drop (k + 1)).map ItemD.dat) : Nat) ≤ 4294967290; omega⟩
                · first | omega | (dsimp only; omega)
            · intro h23
              try have p23 := of_decide_eq_false h23
              refine s_skip H rfl rfl h23 rfl ?_; clear H; intro a H
              refine s_skip H rfl rfl h23 rfl ?_; clear H; intro a H
              refine s_skip H rfl rfl h23 rfl ?_; clear H; intro a H
              refine s_skip H rfl rfl h23 rfl ?_; clear H; intro a H
              refine s_skipU H rfl rfl rfl ?_; clear H; intro a H
              refine s_skipU H rfl rfl rfl ?_; clear H; intro a H
              refine s_skip H rfl rfl h23 rfl ?_; clear H; intro a H
              refine s_pick_f H wn rfl h23 rfl rfl ?_; clear H; intro a H
              refine s_store ty4par 3 (vs := [_]) _ H wn rfl rfl rfl rfl rfl rfl rfl rfl ?_; clear H; intro w H; dsimp only [List.set, setRow] at H
              refine wl_nil ?_
              refine hK11 _ _ ?_; clear hK11
              refine c_region ?_
              refine s_load ty3par H wn rfl (H.hp.ocell 2 rfl rfl) rfl ?_; clear H; intro a H
              refine s_move H wn rfl rfl ?_; clear H; intro a H
              refine s_add _ H wn rfl rfl rfl (by omega) (by omega) rfl ?_; clear H; intro a H
              refine s_store ty3par 2 (vs := [_]) _ H wn rfl rfl rfl rfl rfl rfl rfl rfl ?_; clear H; intro w H; dsimp only [List.set, setRow] at H
              refine wl_nil ?_
              refine hK8 _ _ ?_; clear hK8
              refine c_region ?_
              refine s_add _ H wn rfl rfl rfl (by omega) (by omega) rfl ?_; clear H; intro a H
              refine s_move H wn rfl rfl ?_; clear H; intro a H
              refine wl_nil ?_
              refine loop_end ((k + 1, fr, at_ + n1 l[k], false, j1, Lt, G19)) (by exact (H.pickT (Pl := [_, _, _, _]) (Pl' := [_, _, _]) [1, 2, 3] (by decide) rfl).sub ⟨rfl, rfl, rfl, rfl, rfl, rfl, rfl, rfl, trivial⟩) ?_ ?_
              · try dsimp only
                exact ⟨by omega, fun b o h => hm19 b o (hgm b o h), by rw [if_neg p32, if_neg (by omega), h23] at hnow; exact hnow, by omega, by show at_ + (n1 l[k] : Int) + (szRs ((l.drop (k + 1)).map ItemD.dat) : Nat) ≤ 4294967290; omega⟩
              · first | omega | (dsimp only; omega)
    · intro h15
      try have p15 := of_decide_eq_false h15
      refine c_exit ?_
      refine hK4 _ _ ?_; clear hK4
      rw [List.drop_of_length_le (by omega), blkS] at hnow
      have hyg := gcell_mono hgm hy
      refine c_region ?_
      refine s_move H wn rfl rfl ?_; clear H; intro a H
      refine s_callv (Li := []) (L := (b3, _) :: (b4, _) :: (b5, _) :: Lt) H wn rfl rfl (clo46 hcb (fun b o h => hgm b o (hma b o h)) hnow.now (Hp.owns (Li := []) H.hp) hyg hnow.rem) rfl ?_; clear H
      rintro v69 G69 L69 a w ⟨b69, fr69, lo69, Lu69, rfl, rfl, hb1, hb2⟩ hm69 H
      refine wl_nil ?_
      refine (leave0 H Try.results45 ?_).2
      first
        | exact H.hp.retD (L' := Lt39) (by repeat (first | exact List.Sublist.refl _ | apply List.Sublist.cons)) (.inr (hb2 (by simpa using h40)))
        | exact H.hp.retD (L' := Lu50) (by repeat (first | exact List.Sublist.refl _ | apply List.Sublist.cons)) (.inr (hb2 (by simpa using h52)))
        | exact H.hp.retD (L' := Lt59) (by repeat (first | exact List.Sublist.refl _ | apply List.Sublist.cons)) (.inr (hb4 (by simpa using h61)))
        | (cases b69
           · exact H.hp.retD (L' := Lu69) (by repeat (first | exact List.Sublist.refl _ | apply List.Sublist.cons)) (.inr (hb2 rfl))
           · exact H.hp.retD (L' := Lu69) (by repeat (first | exact List.Sublist.refl _ | apply List.Sublist.cons)) (.inl (by have := hnow.len; (try rw [List.length_map]); rw [← this]; exact hb1 rfl)))
end Go.Proofs.Ytbfdhlakbdadhaa
