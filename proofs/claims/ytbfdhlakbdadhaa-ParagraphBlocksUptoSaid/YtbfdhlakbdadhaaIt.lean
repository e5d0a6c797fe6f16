/-
  Package run: items.
-/
import Derived.Test.YtbfdhlakbdadhaaPar
namespace Go.Proofs.Ytbfdhlakbdadhaa
open Go.RowKit
theorem ty28it : Ty Try.prog 28 1 24 [.slice none 0 0] false := ⟨by kernel_rfl, by kernel_rfl⟩
theorem un28it : Try.prog.underlying 28 = some (.slice 47) := by kernel_rfl
theorem ty47it : Ty Try.prog 47 11 176 [.int .i64 0, .int .i64 0, .int .i64 0, .string ⟨#[]⟩, .slice none 0 0, .int .i64 0, .int .i64 0, .slice none 0 0, .slice none 0 0, .slice none 0 0, .slice none 0 0] true := ⟨by kernel_rfl, by kernel_rfl⟩
theorem en29it : ∀ args w, (callFunc 29 args).run Try.prog w = .ok (.enter 29 args) w := enters Try.func29 rfl (by kernel_rfl)
theorem en96it : ∀ args w, (callFunc 96 args).run Try.prog w = .ok (.enter 96 args) w := enters Try.func96 rfl (by kernel_rfl)
/-- The items with their offsets. -/
def offs : Nat → List ItemD → List (Nat × ItemD)
  | _, [] => []
  | o, x :: l => (o, x) :: offs (o + unitsS x) l
def itP (a : Nat × ItemD) : AP := fun args g => ∃ cs, args = [vi a.1, .agg cs.toArray] ∧ RepRow g a.2.dat cs
theorem it_at {A : List (Nat × ItemD)} {k : Nat} {args : List Value} {g : GH} (h : AtAP (A.map itP) k args g) : ∃ (hk : k < A.length) (cs : List Value), args = [vi A[k].1, .agg cs.toArray] ∧ RepRow g A[k].2.dat cs := by
  obtain ⟨p, hp, hargs⟩ := h
  rw [List.getElem?_map] at hp
  obtain ⟨q, hq, rfl⟩ := Option.map_eq_some_iff.1 hp
  obtain ⟨hk, rfl⟩ := List.getElem?_eq_some_iff.1 hq
  obtain ⟨cs, h1, h2⟩ := hargs
  exact ⟨hk, cs, h1, h2⟩
theorem offs_len : ∀ (l : List ItemD) (o : Nat), (offs o l).length = l.length
  | [], _ => rfl
  | x :: l, o => by simp [offs, offs_len l]
theorem unitsS_le (x : ItemD) : unitsS x < szR x.dat := by
  have := zItem_eq x
  have h2 := cntS_le x.text
  unfold unitsS; split <;> omega
set_option maxHeartbeats 1000000 in
theorem items1_iter {G : GH} {bd : Nat} {l : List ItemD} {v : Value} (hb : gcell G bd 0 = some v) (hv : RepV G (.sl 11 (l.map ItemD.dat)) v) (hz : zItems l ≤ 4294967290) :
    Iter Try.prog G (.func (.func 96) #[] #[.pointer (some ⟨bd, 0, none⟩)]) ((offs 0 l).map itP) := by
  intro J Jx fv G1 L w0 hfv hGi hJm hJx hJ hO hcb
  refine callV_func (caps := [.pointer (some ⟨bd, 0, none⟩)]) en96it ?_
  obtain ⟨A, c, rfl, hc1, hc2, hg⟩ := hv.slice
  rw [List.length_map] at *
  have hll := zItems_length l
  replace hb := gcell_mono hGi hb
  refine enterL (N := 28) (T := [(0, _), (1, _)]) Try.func96 rfl Try.ntmps96 rfl rfl hO ?_
  intro a H
  refine c_seq (fun _ hK1 => ?_)
  refine c_region ?_
  refine s_assign H wn rfl rfl ?_; clear H; intro a H
  refine wl_nil ?_
  refine hK1 _ _ ?_; clear hK1
  refine c_seq (fun _ hK2 => ?_)
  refine c_region ?_
  refine s_load ty28it H wn rfl (H.hp.gcell (by assumption)) rfl ?_; clear H; intro a H
  refine s_len un28it H wn rfl rfl ?_; clear H; intro a H
  refine s_move H wn rfl rfl ?_; clear H; intro a H
  refine wl_nil ?_
  refine hK2 _ _ ?_; clear hK2
  refine c_block ?_
  skip
  refine c_loopS (ι := Nat × Nat × Nat × OL × GH) (Tc := [(0, _), (8, _), (9, _)]) (Lc := []) (fun (gh : Nat × Nat × Nat × OL × GH) => [(3, vi gh.2.1), (10, vi gh.1)]) (fun (gh : Nat × Nat × Nat × OL × GH) => [] ++ gh.2.2.2.1) (fun (gh : Nat × Nat × Nat × OL × GH) => gh.2.2.2.2) (fun (gh : Nat × Nat × Nat × OL × GH) => gh.1 ≤ l.length ∧ (∀ b o, G1 b = some o → gh.2.2.2.2 b = some o) ∧ Now ((offs 0 l).map itP) itP J (offs 0 l).length gh.2.2.1 (offs gh.2.1 (l.drop gh.1)) gh.2.2.2.2 gh.2.2.2.1 ∧ gh.2.1 + zItems (l.drop gh.1) ≤ 4294967290) (fun (gh : Nat × Nat × Nat × OL × GH) => l.length - gh.1) ((0, 0, 0, L, G1)) (by exact (H).sub ⟨rfl, rfl, rfl, rfl, rfl, trivial⟩) ?_ ?_
  · exact ⟨by omega, fun _ _ h => h, ⟨hJ, fun i a h => by rw [Nat.zero_add, List.getElem?_map]; rw [List.drop_zero] at h; rw [h]; rfl, by simp⟩, by simp; omega⟩
  · clear H; intro gh a w hI H
    obtain ⟨k, at_, j1, Lt, g⟩ := gh; dsimp only at hI H
    obtain ⟨hk, hgm, hnow, hat⟩ := hI
    dsimp only [List.cons_append, List.nil_append, List.append_nil] at H
    refine c_seq (fun _ hK3 => ?_)
    skip
    refine c_region ?_
    refine s_cmp H wn rfl rfl rfl rfl ?_; clear H; intro a H
    refine wl_nil ?_
    refine hK3 _ _ ?_; clear hK3
    refine c_seq (fun _ hK4 => ?_)
    refine c_cond H rfl ?_ ?_
    · intro h11
      try have p11 := of_decide_eq_true h11
      have hk2 : k < l.length := by omega
      obtain ⟨b, o, pA, pn, pc, dA, dn, dc, yA, yn, yc, fA, fn, fc, rA, rn, rc, rfl, hrow, hhd, hfl, hrw⟩ := flow_get hk2 hg
      have hgm0 : ∀ b o, G b = some o → g b = some o := fun b o h => hgm b o (hGi b o h)
      replace hrow := fun j u hj => gcell_mono hgm0 (hrow j u hj)
      have hsz2 := zItems_mem (List.getElem_mem hk2)
      have hn1 := unitsS_le l[k]
      have hzi := zItem_eq l[k]
      rw [List.drop_eq_getElem_cons hk2] at hnow hat
      rw [zItems, List.map_cons, szRs] at hat
      rw [offs] at hnow
      refine c_skip ?_
      refine hK4 _ _ ?_; clear hK4
      refine c_seq (fun _ hK5 => ?_)
      refine c_block ?_
      refine c_seq (fun _ hK6 => ?_)
      refine c_region ?_
      refine s_index un28it ty47it _ H wn rfl rfl rfl (by first | assumption | omega) rfl ?_; clear H; intro a H
      refine s_loada ty47it (cs := [_, _, _, _, _, _, _, _, _, _, _]) H wn rfl rfl (fun j v hj => H.hp.gcell (hrow j v hj)) rfl ?_; clear H; intro a H
      refine s_alloc ty47it H wn rfl ?_; clear H; intro b5 a w hb5 H
      refine s_store ty47it 0 (vs := [_, _, _, _, _, _, _, _, _, _, _]) _ H wn rfl rfl rfl rfl rfl rfl rfl rfl ?_; clear H; intro w H; dsimp only [List.set, setRow] at H
      refine wl_nil ?_
      refine hK6 _ _ ?_; clear hK6
      refine c_seq (fun _ hK7 => ?_)
      refine c_seq (fun _ hK8 => ?_)
      refine c_region ?_
      refine s_move H wn rfl rfl ?_; clear H; intro a H
      refine s_move H wn rfl rfl ?_; clear H; intro a H
      refine s_loada ty47it (cs := [_, _, _, _, _, _, _, _, _, _, _]) H wn rfl rfl (H.hp.ocells 0 rfl rfl) rfl ?_; clear H; intro a H
      refine s_callv (Li := [_]) (L := Lt) H wn rfl rfl (hcb j1 _ _ _ _ ⟨_, hnow.head, _, rfl, RepRow.mkItem (hhd.mono hgm0) (hfl.mono hgm0) (hrw.mono hgm0)⟩ hgm hnow.now (Hp.owns (Li := [_]) H.hp)) rfl ?_; clear H
      rintro v17 G17 Lt17 a w ⟨b17, rfl, hb1, hb2⟩ hm17 H
      refine s_not H wn rfl rfl ?_; clear H; intro a H
      refine wl_nil ?_
      refine hK8 _ _ ?_; clear hK8
      refine c_cond H rfl ?_ ?_
      · intro h18
        try have p18 := of_decide_eq_true h18
        refine c_ret ?_
        refine (leave0 H Try.results96 ?_).1
        first
          | exact H.hp.retD (L' := Lt17) (by repeat (first | exact List.Sublist.refl _ | apply List.Sublist.cons)) (.inr (hb2 (by simpa using h18)))
          | exact H.hp.retL (.inl (by have := hnow.len; rw [List.drop_of_length_le (by omega)] at this; simp only [offs, List.length_nil, Nat.add_zero] at this; (try rw [List.length_map]); rw [← this]; exact hnow.now))
      · intro h18
        try have p18 := of_decide_eq_false h18
        refine c_skip ?_
        refine hK7 _ _ ?_; clear hK7
        refine c_seq (fun _ hK9 => ?_)
        refine c_region ?_
        refine s_loada ty47it (cs := [_, _, _, _, _, _, _, _, _, _, _]) H wn rfl rfl (H.hp.ocells 0 rfl rfl) rfl ?_; clear H; intro a H
        refine s_call en29it H wn rfl (units_spec _ _ H.hp.ro _ _ _ _ _ _ _ _ _ _ (by omega)) rfl ?_; clear H
        rintro v21 _ a w ⟨rfl, rfl⟩ - H
        refine s_move H wn rfl rfl ?_; clear H; intro a H
        refine s_extract H wn rfl rfl rfl ?_; clear H; intro a H
        refine s_extract H wn rfl rfl rfl ?_; clear H; intro a H
        refine s_assign H wn rfl rfl ?_; clear H; intro a H
        refine s_assign H wn rfl rfl ?_; clear H; intro a H
        refine wl_nil ?_
        refine hK9 _ _ ?_; clear hK9
        refine c_region ?_
        refine s_move H wn rfl rfl ?_; clear H; intro a H
        refine s_move H wn rfl rfl ?_; clear H; intro a H
        refine s_add _ H wn rfl rfl rfl (by omega) (by omega) rfl ?_; clear H; intro a H
        refine s_assign H wn rfl rfl ?_; clear H; intro a H
        refine wl_nil ?_
        refine hK5 _ _ ?_; clear hK5
        refine c_region ?_
        refine s_add _ H wn rfl rfl rfl (by omega) (by omega) rfl ?_; clear H; intro a H
        refine s_move H wn rfl rfl ?_; clear H; intro a H
        refine wl_nil ?_
        refine loop_end ((k + 1, at_ + unitsS l[k], j1 + 1, Lt17, G17)) (by exact (H.pickT (Pl := [_]) (Pl' := []) [] (by decide) rfl).sub ⟨rfl, rfl, rfl, rfl, rfl, trivial⟩) ?_ ?_
        · try dsimp only
          exact ⟨by omega, fun b o h => hm17 b o (hgm b o h), hnow.step (hb1 (by simpa using h18)), by show at_ + unitsS l[k] + szRs ((l.drop (k + 1)).map ItemD.dat) ≤ 4294967290; omega⟩
        · first | omega | (dsimp only; omega)
    · intro h11
      try have p11 := of_decide_eq_false h11
      refine c_exit ?_
      refine (leave0 H Try.results96 ?_).2
      first
        | exact H.hp.retD (L' := Lt17) (by repeat (first | exact List.Sublist.refl _ | apply List.Sublist.cons)) (.inr (hb2 (by simpa using h18)))
        | exact H.hp.retL (.inl (by have := hnow.len; rw [List.drop_of_length_le (by omega)] at this; simp only [offs, List.length_nil, Nat.add_zero] at this; (try rw [List.length_map]); rw [← this]; exact hnow.now))
theorem items_spec (G : GH) (w0 : World) (hG : Hold G w0) (l : List ItemD) (v : Value) (hv : RepV G (.sl 11 (l.map ItemD.dat)) v) (hz : zItems l ≤ 4294967290) :
    Calls Try.prog 88 #[v] w0 (Ret w0 G fun u G' => ∃ bd, u = .func (.func 96) #[] #[.pointer (some ⟨bd, 0, none⟩)] ∧ Iter Try.prog G' u ((offs 0 l).map itP)) := by
  obtain ⟨A, c, rfl, hc1, hc2, hg⟩ := hv.slice
  refine enter (N := 4) (T := [(0, _)]) (F := fun k => k < w0.heap.size) (L := []) Try.func88 rfl Try.ntmps88 rfl rfl hG (fun _ h => h) (fun _ h => by cases h) (fun _ h => by cases h) (fun _ h => by cases h) List.Pairwise.nil ?_
  intro a H
  refine c_seq (fun _ hK1 => ?_)
  refine c_region ?_
  refine s_box (cs := [_]) H wn rfl rfl rfl ?_; clear H; intro b1 a w hb1 H
  refine s_assign H wn rfl rfl ?_; clear H; intro a H
  refine wl_nil ?_
  refine hK1 _ _ ?_; clear hK1
  refine c_seq (fun _ hK2 => ?_)
  refine c_region ?_
  refine s_makeFunc H wn rfl rfl ?_; clear H; intro a H
  refine s_assign H wn rfl rfl ?_; clear H; intro a H
  refine wl_nil ?_
  refine hK2 _ _ ?_; clear hK2
  refine c_ret ?_
  obtain ⟨G2, hm2, hb1, H⟩ := H.giveBox
  refine (leave1 H Try.results88 (.cons (rv_tmp H rfl) .nil) ?_).1
  exact H.hp.ret ⟨b1, rfl, items1_iter (by unfold gcell; rw [hb1]; rfl) (hv.mono hm2) hz⟩
end Go.Proofs.Ytbfdhlakbdadhaa
