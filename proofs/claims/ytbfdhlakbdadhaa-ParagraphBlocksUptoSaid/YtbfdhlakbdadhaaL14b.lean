/-
  The model of layer 14: sameBlocks.
-/
import Derived.Test.YtbfdhlakbdadhaaL14
namespace Go.Proofs.Ytbfdhlakbdadhaa
open Go.RowKit
theorem ty37l14b : Ty Try.prog 37 4 32 [.int .i64 0, .int .i64 0, .int .i64 0, .bool false] true := ⟨by kernel_rfl, by kernel_rfl⟩
theorem un33l14b : Try.prog.underlying 33 = some (.slice 37) := by kernel_rfl
theorem eqs37l14b : EqS Try.prog 37 [(0, false), (1, false), (2, false), (3, true)] := ⟨by kernel_rfl, by kernel_rfl, by kernel_rfl, by kernel_rfl, by kernel_rfl⟩
theorem blk_neq (a b : BlkD) : Value.bool (if BinOp.neq = BinOp.eql then [(0, false), (1, false), (2, false), (3, true)].all fun o => getV #[vi a.kind, vi a.from_, vi a.to, .bool a.mark] o == getV #[vi b.kind, vi b.from_, vi b.to, .bool b.mark] o else !([(0, false), (1, false), (2, false), (3, true)].all fun o => getV #[vi a.kind, vi a.from_, vi a.to, .bool a.mark] o == getV #[vi b.kind, vi b.from_, vi b.to, .bool b.mark] o)) = .bool (decide (¬ a = b)) := by
  congr 1
  have h := BlkD.eq_iff a b
  rw [Bool.eq_iff_iff]
  simp only [decide_eq_true_eq]
  rw [← h]
  simp [getV]
  by_cases h1 : a.kind = b.kind <;> by_cases h2 : a.from_ = b.from_ <;> by_cases h3 : a.to = b.to <;> by_cases h4 : a.mark = b.mark <;> simp [h1, h2, h3, h4]
theorem same14_spec (G : GH) (w0 : World) (hG : Hold G w0) (A B : List BlkD) (v u : Value) (hv : RepV G (.sl 4 (A.map bkDat)) v) (hu : RepV G (.sl 4 (B.map bkDat)) u) :
    Calls Try.prog 15 #[v, u] w0 (Ret w0 G fun r G' => ∃ b, r = .bool b ∧ (A = B → b = true) ∧ (b = true → A = B)) := by
  obtain ⟨vA, vc, rfl, hc1, hc2, hg⟩ := hv.slice
  obtain ⟨uA, uc, rfl, hd1, hd2, hh⟩ := hu.slice
  have hml : maxLen = 9223372036854775807 := rfl
  rw [List.length_map] at *
  rw [List.length_map] at *
  refine enter (N := 26) (T := [(0, _), (1, _)]) (F := fun k => k < w0.heap.size) (L := []) Try.func15 rfl Try.ntmps15 rfl rfl hG (fun _ h => h) (fun _ h => by cases h) (fun _ h => by cases h) (fun _ h => by cases h) List.Pairwise.nil ?_
  intro a H
  refine c_seq (fun _ hK1 => ?_)
  refine c_region ?_
  refine s_assign H wn rfl rfl ?_; clear H; intro a H
  refine wl_nil ?_
  refine hK1 _ _ ?_; clear hK1
  refine c_seq (fun _ hK2 => ?_)
  refine c_seq (fun _ hK3 => ?_)
  refine c_region ?_
  refine s_move H wn rfl rfl ?_; clear H; intro a H
  refine s_len un33l14b H wn rfl rfl ?_; clear H; intro a H
  refine s_move H wn rfl rfl ?_; clear H; intro a H
  refine s_len un33l14b H wn rfl rfl ?_; clear H; intro a H
  refine s_cmp H wn rfl rfl rfl rfl ?_; clear H; intro a H
  refine wl_nil ?_
  refine hK3 _ _ ?_; clear hK3
  refine c_cond H rfl ?_ ?_
  · intro h10
    try have p10 := of_decide_eq_true h10
    refine c_seq (fun _ hK4 => ?_)
    refine c_region ?_
    refine s_assign H wn rfl rfl ?_; clear H; intro a H
    refine wl_nil ?_
    refine hK4 _ _ ?_; clear hK4
    refine c_ret ?_
    refine (leave1 H Try.results15 (.cons (rv_tmp H rfl) .nil) ?_).1
    exact H.hp.ret ⟨_, rfl, fun e => absurd (congrArg List.length e) (by omega), fun e => (by cases e)⟩
  · intro h10
    try have p10 := of_decide_eq_false h10
    refine c_skip ?_
    refine hK2 _ _ ?_; clear hK2
    refine c_seq (fun _ hK5 => ?_)
    refine c_seq (fun _ hK6 => ?_)
    refine c_region ?_
    refine s_assign H wn rfl rfl ?_; clear H; intro a H
    refine wl_nil ?_
    refine hK6 _ _ ?_; clear hK6
    refine c_block ?_
    skip
    refine c_loopS (ι := Nat × GH) (Tc := [(0, _), (1, _)]) (Lc := []) (fun (gh : Nat × GH) => [(5, vi gh.1)]) (fun (gh : Nat × GH) => []) (fun (gh : Nat × GH) => gh.2) (fun (gh : Nat × GH) => gh.1 ≤ A.length ∧ A.take gh.1 = B.take gh.1 ∧ (∀ b o, G b = some o → gh.2 b = some o)) (fun (gh : Nat × GH) => A.length - gh.1) ((0, G)) (by exact (H).sub ⟨rfl, rfl, rfl, trivial⟩) ?_ ?_
    · exact ⟨by omega, rfl, fun _ _ h => h⟩
    · clear H; intro gh a w hI H
      obtain ⟨k, g⟩ := gh; dsimp only at hI H
      obtain ⟨hk, hsame, hgm⟩ := hI
      dsimp only [List.cons_append, List.nil_append, List.append_nil] at H
      refine c_seq (fun _ hK7 => ?_)
      refine c_seq (fun _ hK8 => ?_)
      refine c_region ?_
      refine s_move H wn rfl rfl ?_; clear H; intro a H
      refine s_move H wn rfl rfl ?_; clear H; intro a H
      refine s_len un33l14b H wn rfl rfl ?_; clear H; intro a H
      refine s_cmp H wn rfl rfl rfl rfl ?_; clear H; intro a H
      refine wl_nil ?_
      refine hK8 _ _ ?_; clear hK8
      refine c_cond H rfl ?_ ?_
      · intro h14
        try have p14 := of_decide_eq_true h14
        have hk2 : k < A.length := by omega
        have hk3 : k < B.length := by omega
        obtain ⟨b1, o1, cs1, rfl, hcl1, hrow1, hr1⟩ := hg k (bkDat A[k]) (by simp [hk2])
        obtain rfl := bk_of hr1
        obtain ⟨b2, o2, cs2, rfl, hcl2, hrow2, hr2⟩ := hh k (bkDat B[k]) (by simp [hk3])
        obtain rfl := bk_of hr2
        refine c_skip ?_
        refine hK7 _ _ ?_; clear hK7
        refine c_seq (fun _ hK9 => ?_)
        refine c_block ?_
        refine c_seq (fun _ hK10 => ?_)
        have hprm6 : ∀ (i : Nat) (v : Value) (G G' : GH), (∀ k o, G k = some o → G' k = some o) → (fun (i : Nat) (v : Value) (G : GH) => match i with | 0 => v = .slice (some ⟨b1, o1, none⟩) A.length vc | 1 => v = vi k | 2 => v = .pointer (some ⟨b1, o1 + k * 4, none⟩) | 3 => v = bkV A[k] | 4 => v = .slice (some ⟨b2, o2, none⟩) B.length uc | 5 => v = vi k | 6 => v = .pointer (some ⟨b2, o2 + k * 4, none⟩) | 7 => v = bkV B[k] | 8 => v = .bool (decide (¬ A[k] = B[k])) | _ => True) i v G → (fun (i : Nat) (v : Value) (G : GH) => match i with | 0 => v = .slice (some ⟨b1, o1, none⟩) A.length vc | 1 => v = vi k | 2 => v = .pointer (some ⟨b1, o1 + k * 4, none⟩) | 3 => v = bkV A[k] | 4 => v = .slice (some ⟨b2, o2, none⟩) B.length uc | 5 => v = vi k | 6 => v = .pointer (some ⟨b2, o2 + k * 4, none⟩) | 7 => v = bkV B[k] | 8 => v = .bool (decide (¬ A[k] = B[k])) | _ => True) i v G' := by
          intro i v G G' hm h
          match i, h with
          | 0, h => exact h
          | 1, h => exact h
          | 2, h => exact h
          | 3, h => exact h
          | 4, h => exact h
          | 5, h => exact h
          | 6, h => exact h
          | 7, h => exact h
          | 8, h => exact h
          | _ + 9, h => exact trivial
        refine c_drawI (hmx) [[], [], [0, 1], [0, 1, 2], [], [], [4, 5], [4, 5, 6], [0, 1, 2, 3, 4, 5, 6, 7]] [] (by kernel_rfl) (by kernel_rfl) (fun (i : Nat) (v : Value) (G : GH) => match i with | 0 => v = .slice (some ⟨b1, o1, none⟩) A.length vc | 1 => v = vi k | 2 => v = .pointer (some ⟨b1, o1 + k * 4, none⟩) | 3 => v = bkV A[k] | 4 => v = .slice (some ⟨b2, o2, none⟩) B.length uc | 5 => v = vi k | 6 => v = .pointer (some ⟨b2, o2 + k * 4, none⟩) | 7 => v = bkV B[k] | 8 => v = .bool (decide (¬ A[k] = B[k])) | _ => True) hprm6 H ?_ ?_
        · clear H; refine (allI_cons ?_ (allI_cons ?_ (allI_cons ?_ (allI_cons ?_ (allI_cons ?_ (allI_cons ?_ (allI_cons ?_ (allI_cons ?_ (allI_cons ?_ allI_nil)))))))))
          · intro S a w G1 _ hSi hc hG HT hv; have H := HT; clear hSi
            have Hb := H.full; have H := Hb; clear hc
            refine s_move H wn rfl rfl ?_; clear H; intro a H
            refine wl_nil ⟨rfl, ?_⟩
            exact draw_val (by kernel_rfl) hprm6 rfl rfl HT Hb hG hv (fun _ _ h => h) (rfl) H
          · intro S a w G1 _ hSi hc hG HT hv; have H := HT; clear hSi
            have Hb := H.full; have H := Hb; clear hc
            refine s_move H wn rfl rfl ?_; clear H; intro a H
            refine wl_nil ⟨rfl, ?_⟩
            exact draw_val (by kernel_rfl) hprm6 rfl rfl HT Hb hG hv (fun _ _ h => h) (rfl) H
          · intro S a w G1 _ hSi hc hG HT hv; have H := HT; clear hSi
            obtain ⟨u17, hu17, hp17⟩ := hv 0 17 (hc 0 (by decide)) rfl
            obtain rfl : u17 = .slice (some ⟨b1, o1, none⟩) A.length vc := hp17
            have H := H.addS hu17
            obtain ⟨u18, hu18, hp18⟩ := hv 1 18 (hc 1 (by decide)) rfl
            obtain rfl : u18 = vi k := hp18
            have H := H.addS hu18
            have Hb := H.full; have H := Hb; clear hc
            refine s_index un33l14b ty37l14b _ H wn rfl rfl rfl (by first | assumption | omega) rfl ?_; clear H; intro a H
            refine wl_nil ⟨rfl, ?_⟩
            exact draw_val (by kernel_rfl) hprm6 rfl rfl HT Hb hG hv (fun _ _ h => h) (rfl) H
          · intro S a w G1 _ hSi hc hG HT hv; have H := HT; clear hSi
            obtain ⟨u19, hu19, hp19⟩ := hv 2 19 (hc 2 (by decide)) rfl
            obtain rfl : u19 = .pointer (some ⟨b1, o1 + k * 4, none⟩) := hp19
            have H := H.addS hu19
            have Hb := H.full; have H := Hb; clear hc
            refine s_loada ty37l14b (cs := [_, _, _, _]) H wn rfl rfl (fun j v hj => H.hp.gcell (gcell_mono hG (gcell_mono hgm (hrow1 j v hj)))) rfl ?_; clear H; intro a H
            refine wl_nil ⟨rfl, ?_⟩
            exact draw_val (by kernel_rfl) hprm6 rfl rfl HT Hb hG hv (fun _ _ h => h) (rfl) H
          · intro S a w G1 _ hSi hc hG HT hv; have H := HT; clear hSi
            have Hb := H.full; have H := Hb; clear hc
            refine s_move H wn rfl rfl ?_; clear H; intro a H
            refine wl_nil ⟨rfl, ?_⟩
            exact draw_val (by kernel_rfl) hprm6 rfl rfl HT Hb hG hv (fun _ _ h => h) (rfl) H
          · intro S a w G1 _ hSi hc hG HT hv; have H := HT; clear hSi
            have Hb := H.full; have H := Hb; clear hc
            refine s_move H wn rfl rfl ?_; clear H; intro a H
            refine wl_nil ⟨rfl, ?_⟩
            exact draw_val (by kernel_rfl) hprm6 rfl rfl HT Hb hG hv (fun _ _ h => h) (rfl) H
          · intro S a w G1 _ hSi hc hG HT hv; have H := HT; clear hSi
            obtain ⟨u21, hu21, hp21⟩ := hv 4 21 (hc 4 (by decide)) rfl
            obtain rfl : u21 = .slice (some ⟨b2, o2, none⟩) B.length uc := hp21
            have H := H.addS hu21
            obtain ⟨u22, hu22, hp22⟩ := hv 5 22 (hc 5 (by decide)) rfl
            obtain rfl : u22 = vi k := hp22
            have H := H.addS hu22
            have Hb := H.full; have H := Hb; clear hc
            refine s_index un33l14b ty37l14b _ H wn rfl rfl rfl (by first | assumption | omega) rfl ?_; clear H; intro a H
            refine wl_nil ⟨rfl, ?_⟩
            exact draw_val (by kernel_rfl) hprm6 rfl rfl HT Hb hG hv (fun _ _ h => h) (rfl) H
          · intro S a w G1 _ hSi hc hG HT hv; have H := HT; clear hSi
            obtain ⟨u23, hu23, hp23⟩ := hv 6 23 (hc 6 (by decide)) rfl
            obtain rfl : u23 = .pointer (some ⟨b2, o2 + k * 4, none⟩) := hp23
            have H := H.addS hu23
            have Hb := H.full; have H := Hb; clear hc
            refine s_loada ty37l14b (cs := [_, _, _, _]) H wn rfl rfl (fun j v hj => H.hp.gcell (gcell_mono hG (gcell_mono hgm (hrow2 j v hj)))) rfl ?_; clear H; intro a H
            refine wl_nil ⟨rfl, ?_⟩
            exact draw_val (by kernel_rfl) hprm6 rfl rfl HT Hb hG hv (fun _ _ h => h) (rfl) H
          · intro S a w G1 _ hSi hc hG HT hv; have H := HT; clear hSi
            obtain ⟨u20, hu20, hp20⟩ := hv 3 20 (hc 3 (by decide)) rfl
            obtain rfl : u20 = bkV A[k] := hp20
            have H := H.addS hu20
            obtain ⟨u24, hu24, hp24⟩ := hv 7 24 (hc 7 (by decide)) rfl
            obtain rfl : u24 = bkV B[k] := hp24
            have H := H.addS hu24
            have Hb := H.full; have H := Hb; clear hc
            refine s_eqs (.inr rfl) eqs37l14b H wn rfl rfl rfl rfl ?_; clear H; intro a H
            refine wl_nil ⟨rfl, ?_⟩
            exact draw_val (by kernel_rfl) hprm6 rfl rfl HT Hb hG hv (fun _ _ h => h) (blk_neq _ _) H
        · clear H; intro a w G hGm6 H hv
          obtain ⟨u25, hu25, hp25⟩ := hv 8 25 (by decide) rfl
          obtain rfl : u25 = .bool (decide (¬ A[k] = B[k])) := hp25
          have H := H.addS hu25
          clear hv
          refine wl_nil ⟨rfl, ?_⟩
          refine hK10 _ _ ?_; clear hK10
          refine c_cond H rfl ?_ ?_
          · intro h25
            try have p25 := of_decide_eq_true h25
            refine c_seq (fun _ hK11 => ?_)
            refine c_region ?_
            refine s_assign H wn rfl rfl ?_; clear H; intro a H
            refine wl_nil ?_
            refine hK11 _ _ ?_; clear hK11
            refine c_ret ?_
            refine (leave1 H Try.results15 (.cons (rv_tmp H rfl) .nil) ?_).1
            exact H.hp.ret ⟨_, rfl, fun e => absurd (by subst e; rfl) p25, fun e => (by cases e)⟩
          · intro h25
            try have p25 := of_decide_eq_false h25
            refine c_skip ?_
            refine hK9 _ _ ?_; clear hK9
            refine c_region ?_
            refine s_move H wn rfl rfl ?_; clear H; intro a H
            refine s_add _ H wn rfl rfl rfl (by omega) (by omega) rfl ?_; clear H; intro a H
            refine s_assign H wn rfl rfl ?_; clear H; intro a H
            refine wl_nil ?_
            refine loop_end ((k + 1, G)) (by exact (H).sub ⟨rfl, rfl, rfl, trivial⟩) ?_ ?_
            · try dsimp only
              exact ⟨by omega, by rw [List.take_succ_eq_append_getElem hk2, List.take_succ_eq_append_getElem hk3, hsame, Decidable.not_not.1 p25], fun b o h => hGm6 b o (hgm b o h)⟩
            · first | omega | (dsimp only; omega)
      · intro h14
        try have p14 := of_decide_eq_false h14
        refine c_exit ?_
        refine hK5 _ _ ?_; clear hK5
        refine c_seq (fun _ hK12 => ?_)
        refine c_region ?_
        refine s_assign H wn rfl rfl ?_; clear H; intro a H
        refine wl_nil ?_
        refine hK12 _ _ ?_; clear hK12
        refine c_ret ?_
        refine (leave1 H Try.results15 (.cons (rv_tmp H rfl) .nil) ?_).1
        exact H.hp.ret ⟨_, rfl, fun _ => rfl, fun _ => (by rw [List.take_of_length_le (by omega), List.take_of_length_le (by omega)] at hsame; exact hsame)⟩
end Go.Proofs.Ytbfdhlakbdadhaa
