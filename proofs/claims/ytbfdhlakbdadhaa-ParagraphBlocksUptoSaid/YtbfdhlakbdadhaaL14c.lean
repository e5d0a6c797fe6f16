/-
  The model of layer 14: kinds.
-/
import Derived.Test.YtbfdhlakbdadhaaL14b
namespace Go.Proofs.Ytbfdhlakbdadhaa
open Go.RowKit
theorem un28l14c : Try.prog.underlying 28 = some (.slice 47) := by kernel_rfl
theorem ty47l14c : Ty Try.prog 47 11 176 [.int .i64 0, .int .i64 0, .int .i64 0, .string ⟨#[]⟩, .slice none 0 0, .int .i64 0, .int .i64 0, .slice none 0 0, .slice none 0 0, .slice none 0 0, .slice none 0 0] true := ⟨by kernel_rfl, by kernel_rfl⟩
theorem un92l14c : Try.prog.underlying 92 = some (.slice 3) := by kernel_rfl
theorem ty3l14c : Ty Try.prog 3 1 8 [.int .i64 0] false := ⟨by kernel_rfl, by kernel_rfl⟩
theorem fd47_0l14c : Fld Try.prog 47 0 0 := ⟨by kernel_rfl⟩
theorem en11l14c : ∀ args w, (callFunc 11 args).run Try.prog w = .ok (.enter 11 args) w := enters Try.func11 rfl (by kernel_rfl)
/-- The kinds of the units. -/
def kindsS (l : List ItemD) : List Int := l.flatMap fun x => List.replicate (n1 x) x.kind
def intDat (k : Int) : List Dat := [li k]
theorem int_row (G : GH) (k : Int) : RepRow G (intDat k) [vi k] := by
  simp only [intDat, RepRow]
  exact ⟨_, _, rfl, by simp [RepV, Value.oneCell'], rfl⟩
theorem int_of {G : GH} {k : Int} {cs : List Value} (h : RepRow G (intDat k) cs) : cs = [vi k] := by
  simp only [intDat, RepRow, RepV] at h
  obtain ⟨v1, _, rfl, ⟨rfl, -⟩, rfl⟩ := h
  rfl
theorem kindsS_len : ∀ l : List ItemD, (kindsS l).length ≤ zItems l
  | [] => Nat.le_refl _
  | x :: l => by
    have := kindsS_len l
    have h2 := n1_le x
    simp only [kindsS, List.flatMap_cons, List.length_append, List.length_replicate, zItems, List.map_cons, szRs] at *; omega
theorem kindsS_append (l m : List ItemD) : kindsS (l ++ m) = kindsS l ++ kindsS m := by simp [kindsS]
theorem kindsS_one (x : ItemD) : kindsS [x] = List.replicate (n1 x) x.kind := by simp [kindsS]
theorem zItems_append (l m : List ItemD) : zItems (l ++ m) = zItems l + zItems m := by simp [zItems, szRs_append]
theorem n1_not {x : ItemD} (h : ¬ x.kind = 1) : n1 x = 1 := by simp [n1, unitsE, unitsS, h]
theorem kinds_spec (G : GH) (w0 : World) (hG : Hold G w0) (l : List ItemD) (v : Value) (hv : RepV G (.sl 11 (l.map ItemD.dat)) v) (hz : zItems l ≤ 1073741824) :
    Calls Try.prog 32 #[v] w0 (Ret w0 G fun u G' => RepV G' (.sl 1 ((kindsS l).map intDat)) u) := by
  obtain ⟨A, c, rfl, hc1, hc2, hg⟩ := hv.slice
  rw [List.length_map] at *
  have hll := zItems_length l
  have hml : 4294967297 ≤ maxLen := by decide
  refine enter (N := 42) (T := [(0, _)]) (F := fun k => k < w0.heap.size) (L := []) Try.func32 rfl Try.ntmps32 rfl rfl hG (fun _ h => h) (fun _ h => by cases h) (fun _ h => by cases h) (fun _ h => by cases h) List.Pairwise.nil ?_
  intro a H
  refine c_seq (fun _ hK1 => ?_)
  refine c_region ?_
  refine s_assign H wn rfl rfl ?_; clear H; intro a H
  refine wl_nil ?_
  refine hK1 _ _ ?_; clear hK1
  refine c_seq (fun _ hK2 => ?_)
  refine c_region ?_
  refine s_assign H wn rfl rfl ?_; clear H; intro a H
  refine wl_nil ?_
  refine hK2 _ _ ?_; clear hK2
  refine c_seq (fun _ hK3 => ?_)
  refine c_seq (fun _ hK4 => ?_)
  refine c_region ?_
  refine s_assign H wn rfl rfl ?_; clear H; intro a H
  refine wl_nil ?_
  refine hK4 _ _ ?_; clear hK4
  refine c_block ?_
  skip
  refine c_loopS (ι := Nat × Value × List Value × OL) (Tc := [(0, _)]) (Lc := []) (fun (gh : Nat × Value × List Value × OL) => [(3, gh.2.1), (4, vi gh.1)]) (fun (gh : Nat × Value × List Value × OL) => [] ++ gh.2.2.2) (fun (gh : Nat × Value × List Value × OL) => G) (fun (gh : Nat × Value × List Value × OL) => gh.1 ≤ l.length ∧ IsRow 3 1 gh.2.1 (kindsS (l.take gh.1)).length gh.2.2.1 gh.2.2.2 ∧ RepCat G 1 ((kindsS (l.take gh.1)).map intDat) gh.2.2.1) (fun (gh : Nat × Value × List Value × OL) => l.length - gh.1) ((0, .slice none 0 0, [], [])) (by exact (H).sub ⟨rfl, rfl, rfl, trivial⟩) ?_ ?_
  · exact ⟨by omega, IsRow.nil, RepCat.nil⟩
  · clear H; intro gh a w hI H
    obtain ⟨k, v, xs, Lo⟩ := gh; dsimp only at hI H
    obtain ⟨hk, hrw, hcat⟩ := hI
    dsimp only [List.cons_append, List.nil_append, List.append_nil] at H
    refine c_seq (fun _ hK5 => ?_)
    refine c_seq (fun _ hK6 => ?_)
    refine c_region ?_
    refine s_move H wn rfl rfl ?_; clear H; intro a H
    refine s_move H wn rfl rfl ?_; clear H; intro a H
    refine s_len un28l14c H wn rfl rfl ?_; clear H; intro a H
    refine s_cmp H wn rfl rfl rfl rfl ?_; clear H; intro a H
    refine wl_nil ?_
    refine hK6 _ _ ?_; clear hK6
    refine c_cond H rfl ?_ ?_
    · intro h10
      try have p10 := of_decide_eq_true h10
      have hk2 : k < l.length := by omega
      obtain ⟨b, o, pA, pn, pc, dA, dn, dc, yA, yn, yc, fA, fn, fc, rA, rn, rc, rfl, hrow, hhd, hfl, hrw'⟩ := flow_get hk2 hg
      have hkl := kindsS_len (l.take k ++ [l[k]])
      rw [← List.take_succ_eq_append_getElem hk2] at hkl
      have hzt := zItems_append (l.take (k + 1)) (l.drop (k + 1))
      rw [List.take_append_drop] at hzt
      have hks0 : kindsS (l.take (k + 1)) = kindsS (l.take k) ++ List.replicate (n1 l[k]) l[k].kind := by rw [List.take_succ_eq_append_getElem hk2, kindsS_append, kindsS_one]
      have hlk : (kindsS (l.take k)).length + n1 l[k] ≤ 1073741824 := by
        have := congrArg List.length hks0
        rw [List.length_append, List.length_replicate] at this
        omega
      have hc3 : ¬ c = k := by omega
      have he1 : ((l.map ItemD.dat).drop k).take 1 = [l[k]].map ItemD.dat := by rw [List.drop_eq_getElem_cons (by simpa using hk2)]; simp
      have r0 : gcell G b (o + k * 11 + 0) = some (vi l[k].kind) := hrow 0 _ rfl
      refine c_skip ?_
      refine hK5 _ _ ?_; clear hK5
      refine c_seq (fun _ hK7 => ?_)
      refine c_block ?_
      refine c_seq (fun _ hK8 => ?_)
      refine c_region ?_
      refine s_assign H wn rfl rfl ?_; clear H; intro a H
      refine wl_nil ?_
      refine hK8 _ _ ?_; clear hK8
      refine c_seq (fun _ hK9 => ?_)
      refine c_seq (fun _ hK10 => ?_)
      refine c_region ?_
      refine s_move H wn rfl rfl ?_; clear H; intro a H
      refine s_move H wn rfl rfl ?_; clear H; intro a H
      refine s_index un28l14c ty47l14c _ H wn rfl rfl rfl (by first | assumption | omega) rfl ?_; clear H; intro a H
      refine s_field fd47_0l14c H wn rfl rfl ?_; clear H; intro a H
      refine s_load ty3l14c H wn rfl (H.hp.gcell (by assumption)) rfl ?_; clear H; intro a H
      refine s_cmp H wn rfl rfl rfl rfl ?_; clear H; intro a H
      refine wl_nil ?_
      refine hK10 _ _ ?_; clear hK10
      refine c_cond H rfl ?_ ?_
      · intro h18
        try have p18 := of_decide_eq_true h18
        refine c_region ?_
        refine s_move H wn rfl rfl ?_; clear H; intro a H
        refine s_move H wn rfl rfl ?_; clear H; intro a H
        refine s_move H wn rfl rfl ?_; clear H; intro a H
        refine s_add _ H wn rfl rfl rfl (by omega) (by omega) rfl ?_; clear H; intro a H
        refine s_slice un28l14c ty47l14c k (k + 1) H wn rfl rfl rfl rfl (by omega) (by omega) (by omega) rfl ?_; clear H; intro a H
        rw [if_neg hc3, Option.map_some, add_lit, Nat.add_sub_cancel_left] at H
        refine s_call en11l14c H wn rfl (len_spec _ _ H.hp.ro [l[k]] _ (by have h := hv.part k (k + 1) (by omega) (by rw [List.length_map]; omega); rw [if_neg hc3, Option.map_some, add_lit, Nat.add_sub_cancel_left, he1] at h; exact h) (by have := szRs_get (rows := l.map ItemD.dat) (k := k) (r := l[k].dat) (by simp [hk2]); simp only [zItems, List.map_cons, List.map_nil, szRs] at *; omega)) rfl ?_; clear H
        rintro v25 _ a w ⟨rfl, rfl⟩ - H
        rw [lenS_one] at H
        refine s_move H wn rfl rfl ?_; clear H; intro a H
        refine s_extract H wn rfl rfl rfl ?_; clear H; intro a H
        refine s_extract H wn rfl rfl rfl ?_; clear H; intro a H
        refine s_assign H wn rfl rfl ?_; clear H; intro a H
        refine wl_nil ?_
        refine hK9 _ _ ?_; clear hK9
        refine c_seq (fun _ hK11 => ?_)
        refine c_region ?_
        refine s_assign H wn rfl rfl ?_; clear H; intro a H
        refine wl_nil ?_
        refine hK11 _ _ ?_; clear hK11
        refine c_block ?_
        skip
        refine c_loopS (ι := Nat × Value × List Value × OL) (Tc := [(0, _), (4, _), (5, _)]) (Lc := []) (fun (gh : Nat × Value × List Value × OL) => [(3, gh.2.1), (6, vi gh.1)]) (fun (gh : Nat × Value × List Value × OL) => [] ++ gh.2.2.2) (fun (gh : Nat × Value × List Value × OL) => G) (fun (gh : Nat × Value × List Value × OL) => gh.1 ≤ n1 l[k] ∧ IsRow 3 1 gh.2.1 ((kindsS (l.take k)).length + gh.1) gh.2.2.1 gh.2.2.2 ∧ RepCat G 1 ((kindsS (l.take k) ++ List.replicate gh.1 l[k].kind).map intDat) gh.2.2.1) (fun (gh : Nat × Value × List Value × OL) => n1 l[k] - gh.1) ((0, v, xs, Lo)) (by exact (H).sub ⟨rfl, rfl, rfl, rfl, rfl, trivial⟩) ?_ ?_
        · exact ⟨by omega, hrw, by simpa using hcat⟩
        · clear H; intro gh a w hI H
          obtain ⟨j, v2, xs2, Lo2⟩ := gh; dsimp only at hI H
          obtain ⟨hj, hrw2, hcat2⟩ := hI
          dsimp only [List.cons_append, List.nil_append, List.append_nil] at H
          refine c_seq (fun _ hK12 => ?_)
          refine c_seq (fun _ hK13 => ?_)
          refine c_region ?_
          refine s_move H wn rfl rfl ?_; clear H; intro a H
          refine s_move H wn rfl rfl ?_; clear H; intro a H
          refine s_cmp H wn rfl rfl rfl rfl ?_; clear H; intro a H
          refine wl_nil ?_
          refine hK13 _ _ ?_; clear hK13
          refine c_cond H rfl ?_ ?_
          · intro h30
            try have p30 := of_decide_eq_true h30
            have hj2 : j < n1 l[k] := by omega
            refine c_skip ?_
            refine hK12 _ _ ?_; clear hK12
            refine c_seq (fun _ hK14 => ?_)
            refine c_block ?_
            refine c_region ?_
            refine s_move H wn rfl rfl ?_; clear H; intro a H
            refine s_move H wn rfl rfl ?_; clear H; intro a H
            refine s_move H wn rfl rfl ?_; clear H; intro a H
            refine s_index un28l14c ty47l14c _ H wn rfl rfl rfl (by first | assumption | omega) rfl ?_; clear H; intro a H
            refine s_field fd47_0l14c H wn rfl rfl ?_; clear H; intro a H
            refine s_load ty3l14c H wn rfl (H.hp.gcell (by assumption)) rfl ?_; clear H; intro a H
            refine s_buildSlice un92l14c ty3l14c [_] [_] H wn rfl rfl rfl rfl rfl (by intro i q h; match i, h with | 0, h => exact h | n + 1, h => simp at h) rfl rfl ?_; clear H; intro b39 a w hb39 H
            refine s_append (Li := [_]) (Lo := Lo2) (news := [vi l[k].kind]) un92l14c ty3l14c rfl rfl H wn rfl rfl hrw2 rfl (H.hp.ocells 0 rfl rfl) rfl (by omega) (by omega) rfl ?_; clear H; intro v40 Lo40 a w hrw40 H
            refine s_assign H wn rfl rfl ?_; clear H; intro a H
            refine wl_nil ?_
            refine hK14 _ _ ?_; clear hK14
            refine c_region ?_
            refine s_move H wn rfl rfl ?_; clear H; intro a H
            refine s_add _ H wn rfl rfl rfl (by omega) (by omega) rfl ?_; clear H; intro a H
            refine s_assign H wn rfl rfl ?_; clear H; intro a H
            refine wl_nil ?_
            refine loop_end ((j + 1, v40, xs2 ++ [vi l[k].kind], Lo40)) (by exact (H.pickT (Pl := [_]) (Pl' := []) [] (by decide) rfl).sub ⟨rfl, rfl, rfl, rfl, rfl, trivial⟩) ?_ ?_
            · try dsimp only
              exact ⟨by omega, hrw40, by rw [List.replicate_succ', ← List.append_assoc, List.map_append]; exact hcat2.snoc (int_row _ _) rfl⟩
            · first | omega | (dsimp only; omega)
          · intro h30
            try have p30 := of_decide_eq_false h30
            have hj2 : j = n1 l[k] := by omega
            subst hj2
            rw [show (kindsS (l.take k)).length + n1 l[k] = (kindsS (l.take (k + 1))).length by rw [hks0]; simp, ← hks0] at *
            have hks : kindsS (l.take (k + 1)) = kindsS (l.take (k + 1)) := rfl
            refine c_exit ?_
            refine hK7 _ _ ?_; clear hK7
            refine c_region ?_
            refine s_move H wn rfl rfl ?_; clear H; intro a H
            refine s_add _ H wn rfl rfl rfl (by omega) (by omega) rfl ?_; clear H; intro a H
            refine s_assign H wn rfl rfl ?_; clear H; intro a H
            refine wl_nil ?_
            refine loop_end ((k + 1, v2, xs2, Lo2)) (by exact (H).sub ⟨rfl, rfl, rfl, trivial⟩) ?_ ?_
            · try dsimp only
              exact ⟨by omega, by rw [hks]; exact hrw2, by rw [hks]; exact hcat2⟩
            · first | omega | (dsimp only; omega)
      · intro h18
        try have p18 := of_decide_eq_false h18
        have hnn := n1_not (x := l[k]) p18
        refine c_skip ?_
        refine hK9 _ _ ?_; clear hK9
        refine c_seq (fun _ hK15 => ?_)
        refine c_region ?_
        refine s_assign H wn rfl rfl ?_; clear H; intro a H
        refine wl_nil ?_
        refine hK15 _ _ ?_; clear hK15
        refine c_block ?_
        skip
        refine c_loopS (ι := Nat × Value × List Value × OL) (Tc := [(0, _), (4, _), (5, _)]) (Lc := []) (fun (gh : Nat × Value × List Value × OL) => [(3, gh.2.1), (6, vi gh.1)]) (fun (gh : Nat × Value × List Value × OL) => [] ++ gh.2.2.2) (fun (gh : Nat × Value × List Value × OL) => G) (fun (gh : Nat × Value × List Value × OL) => gh.1 ≤ n1 l[k] ∧ IsRow 3 1 gh.2.1 ((kindsS (l.take k)).length + gh.1) gh.2.2.1 gh.2.2.2 ∧ RepCat G 1 ((kindsS (l.take k) ++ List.replicate gh.1 l[k].kind).map intDat) gh.2.2.1) (fun (gh : Nat × Value × List Value × OL) => n1 l[k] - gh.1) ((0, v, xs, Lo)) (by exact (H).sub ⟨rfl, rfl, rfl, rfl, rfl, trivial⟩) ?_ ?_
        · exact ⟨by omega, hrw, by simpa using hcat⟩
        · clear H; intro gh a w hI H
          obtain ⟨j, v2, xs2, Lo2⟩ := gh; dsimp only at hI H
          obtain ⟨hj, hrw2, hcat2⟩ := hI
          dsimp only [List.cons_append, List.nil_append, List.append_nil] at H
          refine c_seq (fun _ hK16 => ?_)
          refine c_seq (fun _ hK17 => ?_)
          refine c_region ?_
          refine s_move H wn rfl rfl ?_; clear H; intro a H
          refine s_move H wn rfl rfl ?_; clear H; intro a H
          refine s_cmp H wn rfl rfl rfl rfl ?_; clear H; intro a H
          refine wl_nil ?_
          refine hK17 _ _ ?_; clear hK17
          refine c_cond H rfl ?_ ?_
          · intro h30
            try have p30 := of_decide_eq_true h30
            have hj2 : j < n1 l[k] := by omega
            refine c_skip ?_
            refine hK16 _ _ ?_; clear hK16
            refine c_seq (fun _ hK18 => ?_)
            refine c_block ?_
            refine c_region ?_
            refine s_move H wn rfl rfl ?_; clear H; intro a H
            refine s_move H wn rfl rfl ?_; clear H; intro a H
            refine s_move H wn rfl rfl ?_; clear H; intro a H
            refine s_index un28l14c ty47l14c _ H wn rfl rfl rfl (by first | assumption | omega) rfl ?_; clear H; intro a H
            refine s_field fd47_0l14c H wn rfl rfl ?_; clear H; intro a H
            refine s_load ty3l14c H wn rfl (H.hp.gcell (by assumption)) rfl ?_; clear H; intro a H
            refine s_buildSlice un92l14c ty3l14c [_] [_] H wn rfl rfl rfl rfl rfl (by intro i q h; match i, h with | 0, h => exact h | n + 1, h => simp at h) rfl rfl ?_; clear H; intro b39 a w hb39 H
            refine s_append (Li := [_]) (Lo := Lo2) (news := [vi l[k].kind]) un92l14c ty3l14c rfl rfl H wn rfl rfl hrw2 rfl (H.hp.ocells 0 rfl rfl) rfl (by omega) (by omega) rfl ?_; clear H; intro v40 Lo40 a w hrw40 H
            refine s_assign H wn rfl rfl ?_; clear H; intro a H
            refine wl_nil ?_
            refine hK18 _ _ ?_; clear hK18
            refine c_region ?_
            refine s_move H wn rfl rfl ?_; clear H; intro a H
            refine s_add _ H wn rfl rfl rfl (by omega) (by omega) rfl ?_; clear H; intro a H
            refine s_assign H wn rfl rfl ?_; clear H; intro a H
            refine wl_nil ?_
            refine loop_end ((j + 1, v40, xs2 ++ [vi l[k].kind], Lo40)) (by exact (H.pickT (Pl := [_]) (Pl' := []) [] (by decide) rfl).sub ⟨rfl, rfl, rfl, rfl, rfl, trivial⟩) ?_ ?_
            · try dsimp only
              exact ⟨by omega, hrw40, by rw [List.replicate_succ', ← List.append_assoc, List.map_append]; exact hcat2.snoc (int_row _ _) rfl⟩
            · first | omega | (dsimp only; omega)
          · intro h30
            try have p30 := of_decide_eq_false h30
            have hj2 : j = n1 l[k] := by omega
            subst hj2
            rw [show (kindsS (l.take k)).length + n1 l[k] = (kindsS (l.take (k + 1))).length by rw [hks0]; simp, ← hks0] at *
            have hks : kindsS (l.take (k + 1)) = kindsS (l.take (k + 1)) := rfl
            refine c_exit ?_
            refine hK7 _ _ ?_; clear hK7
            refine c_region ?_
            refine s_move H wn rfl rfl ?_; clear H; intro a H
            refine s_add _ H wn rfl rfl rfl (by omega) (by omega) rfl ?_; clear H; intro a H
            refine s_assign H wn rfl rfl ?_; clear H; intro a H
            refine wl_nil ?_
            refine loop_end ((k + 1, v2, xs2, Lo2)) (by exact (H).sub ⟨rfl, rfl, rfl, trivial⟩) ?_ ?_
            · try dsimp only
              exact ⟨by omega, by rw [hks]; exact hrw2, by rw [hks]; exact hcat2⟩
            · first | omega | (dsimp only; omega)
    · intro h10
      try have p10 := of_decide_eq_false h10
      refine c_exit ?_
      refine hK3 _ _ ?_; clear hK3
      refine c_seq (fun _ hK19 => ?_)
      obtain ⟨G', hm, hrep, H⟩ := H.giveRow (Li := []) hrw (rows := (kindsS (l.take k)).map intDat) (by simp) hcat
      rw [show l.take k = l from List.take_of_length_le (by omega)] at hrep
      refine c_region ?_
      refine s_move H wn rfl rfl ?_; clear H; intro a H
      refine s_assign H wn rfl rfl ?_; clear H; intro a H
      refine wl_nil ?_
      refine hK19 _ _ ?_; clear hK19
      refine c_ret ?_
      refine (leave1 H Try.results32 (.cons (rv_tmp H rfl) .nil) ?_).1
      exact H.hp.ret hrep
end Go.Proofs.Ytbfdhlakbdadhaa
