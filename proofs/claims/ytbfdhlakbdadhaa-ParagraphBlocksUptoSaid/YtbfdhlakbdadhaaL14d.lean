/-
  The model of layer 14: blocks, and what it gives.
-/
import Derived.Test.YtbfdhlakbdadhaaL14c
namespace Go.Proofs.Ytbfdhlakbdadhaa
open Go.RowKit
theorem un33l14d : Try.prog.underlying 33 = some (.slice 37) := by kernel_rfl
theorem ty37l14d : Ty Try.prog 37 4 32 [.int .i64 0, .int .i64 0, .int .i64 0, .bool false] true := ⟨by kernel_rfl, by kernel_rfl⟩
theorem en32l14d : ∀ args w, (callFunc 32 args).run Try.prog w = .ok (.enter 32 args) w := enters Try.func32 rfl (by kernel_rfl)
theorem un92l14d : Try.prog.underlying 92 = some (.slice 3) := by kernel_rfl
theorem ty3l14d : Ty Try.prog 3 1 8 [.int .i64 0] false := ⟨by kernel_rfl, by kernel_rfl⟩
theorem sr37l14d : Srt Try.prog 37 [(0, 1), (1, 1), (2, 1), (3, 1)] [.int .i64 0, .int .i64 0, .int .i64 0, .bool false] := ⟨by kernel_rfl, by kernel_rfl⟩
def tailM (fr at_ : Nat) (so : Bool) : List BlkD := if fr < at_ then [⟨if so then 1 else 4, fr, at_, false⟩] else []
/-- The blocks that the model finds from a unit on. -/
def mdl : Nat → Nat → Bool → List Int → List BlkD
  | fr, at_, so, [] => tailM fr at_ so
  | fr, at_, so, k :: ks =>
    if k = 2 then ⟨1, fr, at_ + 1, true⟩ :: mdl (at_ + 1) (at_ + 1) false ks
    else if k = 7 ∨ k = 3 then tailM fr at_ so ++ ⟨if k = 3 then 3 else 2, at_, at_ + 1, false⟩ :: mdl (at_ + 1) (at_ + 1) false ks
    else mdl fr (at_ + 1) (so || decide (¬ k = 8)) ks
theorem tailM_len (fr at_ : Nat) (so : Bool) : (tailM fr at_ so).length ≤ 1 := by unfold tailM; split <;> simp
theorem mdl_len : ∀ (ks : List Int) (fr at_ : Nat) (so : Bool), (mdl fr at_ so ks).length ≤ 2 * ks.length + 1
  | [], fr, at_, so => by rw [mdl]; exact tailM_len _ _ _
  | k :: ks, fr, at_, so => by
    have h := tailM_len fr at_ so
    rw [mdl]
    split
    · have := mdl_len ks (at_ + 1) (at_ + 1) false; simp only [List.length_cons]; omega
    · split
      · have := mdl_len ks (at_ + 1) (at_ + 1) false; simp only [List.length_append, List.length_cons]; omega
      · have := mdl_len ks fr (at_ + 1) (so || decide (¬ k = 8)); simp only [List.length_cons]; omega
/-- What is left at a unit. -/
def restM (ks : List Int) (at_ fr : Nat) (so : Bool) : List BlkD := if at_ ≤ ks.length then mdl fr at_ so (ks.drop at_) else []
theorem restM_cons {ks : List Int} {at_ : Nat} (h : at_ < ks.length) (fr : Nat) (so : Bool) : restM ks at_ fr so = if ks[at_] = 2 then ⟨1, fr, at_ + 1, true⟩ :: restM ks (at_ + 1) (at_ + 1) false
    else if ks[at_] = 7 ∨ ks[at_] = 3 then tailM fr at_ so ++ ⟨if ks[at_] = 3 then 3 else 2, at_, at_ + 1, false⟩ :: restM ks (at_ + 1) (at_ + 1) false
    else restM ks (at_ + 1) fr (so || decide (¬ ks[at_] = 8)) := by
  have e0 : restM ks at_ fr so = mdl fr at_ so (ks.drop at_) := if_pos (by omega)
  have e1 : ∀ f s, restM ks (at_ + 1) f s = mdl f (at_ + 1) s (ks.drop (at_ + 1)) := fun f s => if_pos (by omega)
  simp only [e0, e1]
  rw [List.drop_eq_getElem_cons h, mdl]
theorem restM_end {ks : List Int} {n : Nat} (h : n = ks.length) (fr : Nat) (so : Bool) : restM ks n fr so = tailM fr n so := by
  subst h
  rw [restM, if_pos (Nat.le_refl _), List.drop_length, mdl]
theorem restM_off {ks : List Int} {at_ : Nat} (h : ks.length < at_) (fr : Nat) (so : Bool) : restM ks at_ fr so = [] := by rw [restM, if_neg (by omega)]
theorem tailM_no {fr at_ : Nat} (h : ¬ fr < at_) (so : Bool) : tailM fr at_ so = [] := by rw [tailM, if_neg h]
theorem tailM_yes {fr at_ : Nat} (h : fr < at_) (so : Bool) : tailM fr at_ so = [⟨if so then 1 else 4, fr, at_, false⟩] := by rw [tailM, if_pos h]
theorem tailM_t {fr at_ : Nat} (h : fr < at_) : tailM fr at_ true = [⟨1, fr, at_, false⟩] := by rw [tailM, if_pos h]; rfl
theorem tailM_f {fr at_ : Nat} (h : fr < at_) : tailM fr at_ false = [⟨4, fr, at_, false⟩] := by rw [tailM, if_pos h]; rfl
theorem bstep {e : TypeId} {v : Value} {Lo : OL} {g : GH} {A R M : List BlkD} {xs : List Value} (b : BlkD) (hrw : IsRow e 4 v (A.length + 1) (xs ++ bkCells b) Lo) (hcat : RepCat g 4 (A.map bkDat) xs) (heq : A ++ (b :: R) = M) :
    ∃ A' xs', IsRow e 4 v A'.length xs' Lo ∧ RepCat g 4 (A'.map bkDat) xs' ∧ A' ++ R = M :=
  ⟨A ++ [b], _, by rw [List.length_append]; exact hrw, by rw [List.map_append]; exact hcat.snoc (bk_row _ _) rfl, by simpa using heq⟩
theorem bcat {g : GH} {A : List BlkD} {xs : List Value} (h : RepCat g 4 (A.map bkDat) xs) (b : BlkD) : RepCat g 4 ((A ++ [b]).map bkDat) (xs ++ bkCells b) := by
  rw [List.map_append]; exact h.snoc (bk_row _ _) rfl
set_option maxHeartbeats 4000000 in
theorem blocks14_spec (G : GH) (w0 : World) (hG : Hold G w0) (l : List ItemD) (v : Value) (hv : RepV G (.sl 11 (l.map ItemD.dat)) v) (hz : zItems l ≤ 1073741824) :
    Calls Try.prog 14 #[v] w0 (Ret w0 G fun u G' => RepV G' (.sl 4 ((mdl 0 0 false (kindsS l)).map bkDat)) u) := by
  have hml : 4294967297 ≤ maxLen := by decide
  have hkl := kindsS_len l
  have hdl := mdl_len (kindsS l) 0 0 false
  obtain ⟨ks, hks⟩ : ∃ ks, ks = kindsS l := ⟨_, rfl⟩
  rw [← hks] at hkl hdl ⊢
  refine enter (N := 108) (T := [(0, _)]) (F := fun k => k < w0.heap.size) (L := []) Try.func14 rfl Try.ntmps14 rfl rfl hG (fun _ h => h) (fun _ h => by cases h) (fun _ h => by cases h) (fun _ h => by cases h) List.Pairwise.nil ?_
  intro a H
  refine c_seq (fun _ hK1 => ?_)
  refine c_region ?_
  refine s_assign H wn rfl rfl ?_; clear H; intro a H
  refine wl_nil ?_
  refine hK1 _ _ ?_; clear hK1
  refine c_seq (fun _ hK2 => ?_)
  refine c_region ?_
  refine s_assign H wn rfl rfl ?_; clear H; intro a H
  refine wl_nil ?_
  refine hK2 _ _ ?_; clear hK2
  refine c_seq (fun _ hK3 => ?_)
  refine c_region ?_
  refine s_move H wn rfl rfl ?_; clear H; intro a H
  refine s_call en32l14d H wn rfl (kinds_spec _ _ H.hp.ro l v hv hz) rfl ?_; clear H
  rintro v10 G10 a w hk10 hm10 H
  rw [← hks] at hk10
  obtain ⟨kA, kc, rfl, hkc1, hkc2, hkg⟩ := hk10.slice
  rw [List.length_map] at *
  refine s_assign H wn rfl rfl ?_; clear H; intro a H
  refine wl_nil ?_
  refine hK3 _ _ ?_; clear hK3
  refine c_seq (fun _ hK4 => ?_)
  refine c_region ?_
  refine s_assign H wn rfl rfl ?_; clear H; intro a H
  refine s_assign H wn rfl rfl ?_; clear H; intro a H
  refine wl_nil ?_
  refine hK4 _ _ ?_; clear hK4
  refine c_seq (fun _ hK5 => ?_)
  refine c_seq (fun _ hK6 => ?_)
  refine c_region ?_
  refine s_assign H wn rfl rfl ?_; clear H; intro a H
  refine wl_nil ?_
  refine hK6 _ _ ?_; clear hK6
  refine c_block ?_
  skip
  refine c_loopS (ι := Nat × Nat × Bool × List BlkD × Value × List Value × OL) (Tc := [(4, _)]) (Lc := []) (fun (gh : Nat × Nat × Bool × List BlkD × Value × List Value × OL) => [(3, gh.2.2.2.2.1), (5, vi gh.2.1), (6, .bool gh.2.2.1), (7, vi gh.1)]) (fun (gh : Nat × Nat × Bool × List BlkD × Value × List Value × OL) => [] ++ gh.2.2.2.2.2.2) (fun (gh : Nat × Nat × Bool × List BlkD × Value × List Value × OL) => G10) (fun (gh : Nat × Nat × Bool × List BlkD × Value × List Value × OL) => gh.1 ≤ ks.length + 1 ∧ gh.2.1 ≤ gh.1 ∧ IsRow 37 4 gh.2.2.2.2.1 gh.2.2.2.1.length gh.2.2.2.2.2.1 gh.2.2.2.2.2.2 ∧ RepCat G10 4 (gh.2.2.2.1.map bkDat) gh.2.2.2.2.2.1 ∧ gh.2.2.2.1 ++ restM ks gh.1 gh.2.1 gh.2.2.1 = mdl 0 0 false ks) (fun (gh : Nat × Nat × Bool × List BlkD × Value × List Value × OL) => ks.length + 1 - gh.1) ((0, 0, false, [], .slice none 0 0, [], [])) (by exact (H).sub ⟨rfl, rfl, rfl, rfl, rfl, trivial⟩) ?_ ?_
  · exact ⟨by omega, Nat.le_refl _, IsRow.nil, RepCat.nil, by rw [restM, if_pos (by omega)]; rfl⟩
  · clear H; intro gh a w hI H
    obtain ⟨n, fr, so, A, v, xs, Lo⟩ := gh; dsimp only at hI H
    obtain ⟨ht, hfr, hrw, hcat, heq⟩ := hI
    have hal : A.length ≤ 2147483649 := by have := congrArg List.length heq; rw [List.length_append] at this; omega
    dsimp only [List.cons_append, List.nil_append, List.append_nil] at H
    refine c_seq (fun _ hK7 => ?_)
    refine c_seq (fun _ hK8 => ?_)
    refine c_region ?_
    refine s_move H wn rfl rfl ?_; clear H; intro a H
    refine s_move H wn rfl rfl ?_; clear H; intro a H
    refine s_len un92l14d H wn rfl rfl ?_; clear H; intro a H
    refine s_cmp H wn rfl rfl rfl rfl ?_; clear H; intro a H
    refine wl_nil ?_
    refine hK8 _ _ ?_; clear hK8
    refine c_cond H rfl ?_ ?_
    · intro h14
      try have p14 := of_decide_eq_true h14
      first
      | (exfalso; omega)
      | (exact absurd h14 (by decide))
      | skip
        refine c_skip ?_
        refine hK7 _ _ ?_; clear hK7
        refine c_seq (fun _ hK9 => ?_)
        refine c_block ?_
        refine c_seq (fun _ hK10 => ?_)
        refine c_seq (fun _ hK11 => ?_)
        refine c_region ?_
        refine s_move H wn rfl rfl ?_; clear H; intro a H
        refine s_move H wn rfl rfl ?_; clear H; intro a H
        refine s_len un92l14d H wn rfl rfl ?_; clear H; intro a H
        refine s_cmp H wn rfl rfl rfl rfl ?_; clear H; intro a H
        refine s_move H wn rfl rfl ?_; clear H; intro a H
        refine s_split H 21 rfl ?_ ?_
        · intro h21
          try have p21 := of_decide_eq_true h21
          first
          | (exfalso; omega)
          | (exact absurd h21 (by decide))
          | skip
            have ht2 : n < ks.length := by omega
            obtain ⟨kb, ko, kcs, rfl, -, hkrow, hkr⟩ := hkg n (intDat ks[n]) (by simp [ht2])
            obtain rfl := int_of hkr
            have r0 : gcell G10 kb (ko + n * 1) = some (vi ks[n]) := hkrow 0 _ rfl
            rw [restM_cons ht2] at heq
            refine s_move H (wg H rfl rfl h21) rfl rfl ?_; clear H; intro a H
            refine s_move H (wg H rfl rfl h21) rfl rfl ?_; clear H; intro a H
            refine s_index un92l14d ty3l14d _ H (wg H rfl rfl h21) rfl rfl rfl (by first | assumption | omega) rfl ?_; clear H; intro a H
            refine s_load ty3l14d H (wg H rfl rfl h21) rfl (H.hp.gcell (by assumption)) rfl ?_; clear H; intro a H
            refine s_cmp H (wg H rfl rfl h21) rfl rfl rfl rfl ?_; clear H; intro a H
            refine s_pick_t H wn rfl h21 rfl rfl ?_; clear H; intro a H
            refine wl_nil ?_
            refine hK11 _ _ ?_; clear hK11
            refine c_cond H rfl ?_ ?_
            · intro h27
              try have p27 := of_decide_eq_true h27
              first
              | (exfalso; omega)
              | (exact absurd h27 (by decide))
              | skip
                rw [if_pos p27] at heq
                refine c_seq (fun _ hK12 => ?_)
                refine c_region ?_
                refine s_move H wn rfl rfl ?_; clear H; intro a H
                refine s_move H wn rfl rfl ?_; clear H; intro a H
                refine s_move H wn rfl rfl ?_; clear H; intro a H
                refine s_add _ H wn rfl rfl rfl (by omega) (by omega) rfl ?_; clear H; intro a H
                refine s_build sr37l14d [_, _, _, _] H wn rfl rfl rfl rfl ?_; clear H; intro a H
                refine s_buildSlice un33l14d ty37l14d [_, _, _, _] [_, _, _, _] H wn rfl rfl rfl rfl rfl (by intro i q h; match i, h with | 0, h => exact h | n + 1, h => simp at h) rfl rfl ?_; clear H; intro b33 a w hb33 H
                refine s_append (Li := [_]) (Lo := Lo) (news := bkCells ⟨1, fr, n + 1, true⟩) un33l14d ty37l14d rfl rfl H wn rfl rfl hrw rfl (H.hp.ocells 0 rfl rfl) rfl (by omega) (by omega) rfl ?_; clear H; intro v Lo a w hrwn H
                obtain ⟨A, xs, hrw, hcat, heq⟩ := bstep _ hrwn hcat heq
                refine s_assign H wn rfl rfl ?_; clear H; intro a H
                refine wl_nil ?_
                refine hK12 _ _ ?_; clear hK12
                refine c_seq (fun _ hK13 => ?_)
                refine c_region ?_
                refine s_move H wn rfl rfl ?_; clear H; intro a H
                refine s_add _ H wn rfl rfl rfl (by omega) (by omega) rfl ?_; clear H; intro a H
                refine s_assign H wn rfl rfl ?_; clear H; intro a H
                refine s_assign H wn rfl rfl ?_; clear H; intro a H
                refine wl_nil ?_
                refine hK13 _ _ ?_; clear hK13
                refine c_exit ?_
                refine hK9 _ _ ?_; clear hK9
                refine c_region ?_
                refine s_move H wn rfl rfl ?_; clear H; intro a H
                refine s_add _ H wn rfl rfl rfl (by omega) (by omega) rfl ?_; clear H; intro a H
                refine s_assign H wn rfl rfl ?_; clear H; intro a H
                refine wl_nil ?_
                refine loop_end ((n + 1, n + 1, false, A, v, xs, Lo)) (by exact (H.pickT (Pl := [_]) (Pl' := []) [] (by decide) rfl).sub ⟨rfl, rfl, rfl, rfl, rfl, trivial⟩) ?_ ?_
                · try dsimp only
                  first
                  | exact ⟨by omega, by omega, hrw, hcat, heq⟩
                  | exact ⟨by omega, by omega, hrw, hcat, by rw [restM_off (by omega)]; exact heq⟩
                · first | omega | (dsimp only; omega)
            · intro h27
              try have p27 := of_decide_eq_false h27
              first
              | (exfalso; omega)
              | (exact absurd h27 (by decide))
              | skip
                rw [if_neg p27] at heq
                refine c_skip ?_
                refine hK10 _ _ ?_; clear hK10
                refine c_seq (fun _ hK14 => ?_)
                refine c_seq (fun _ hK15 => ?_)
                refine c_region ?_
                refine s_move H wn rfl rfl ?_; clear H; intro a H
                refine s_move H wn rfl rfl ?_; clear H; intro a H
                refine s_len un92l14d H wn rfl rfl ?_; clear H; intro a H
                refine s_cmp H wn rfl rfl rfl rfl ?_; clear H; intro a H
                refine s_move H wn rfl rfl ?_; clear H; intro a H
                refine s_move H (wg H rfl rfl h21) rfl rfl ?_; clear H; intro a H
                refine s_move H (wg H rfl rfl h21) rfl rfl ?_; clear H; intro a H
                refine s_index un92l14d ty3l14d _ H (wg H rfl rfl h21) rfl rfl rfl (by first | assumption | omega) rfl ?_; clear H; intro a H
                refine s_load ty3l14d H (wg H rfl rfl h21) rfl (H.hp.gcell (by assumption)) rfl ?_; clear H; intro a H
                refine s_cmp H (wg H rfl rfl h21) rfl rfl rfl rfl ?_; clear H; intro a H
                refine s_pick_t H wn rfl h21 rfl rfl ?_; clear H; intro a H
                refine s_move H wn rfl rfl ?_; clear H; intro a H
                refine s_split H 48 rfl ?_ ?_
                · intro h48
                  try have p48 := of_decide_eq_true h48
                  first
                  | (exfalso; omega)
                  | (exact absurd h48 (by decide))
                  | skip
                    refine s_move H (wg H rfl rfl h48) rfl rfl ?_; clear H; intro a H
                    refine s_move H (wg H rfl rfl h48) rfl rfl ?_; clear H; intro a H
                    refine s_index un92l14d ty3l14d _ H (wg H rfl rfl h48) rfl rfl rfl (by first | assumption | omega) rfl ?_; clear H; intro a H
                    refine s_load ty3l14d H (wg H rfl rfl h48) rfl (H.hp.gcell (by assumption)) rfl ?_; clear H; intro a H
                    refine s_cmp H (wg H rfl rfl h48) rfl rfl rfl rfl ?_; clear H; intro a H
                    refine s_pick_t H wn rfl h48 rfl rfl ?_; clear H; intro a H
                    refine wl_nil ?_
                    refine hK15 _ _ ?_; clear hK15
                    refine c_cond H rfl ?_ ?_
                    · intro h54
                      try have p54 := of_decide_eq_true h54
                      first
                      | (exfalso; omega)
                      | (exact absurd h54 (by decide))
                      | skip
                        rw [if_neg (fun h => h.elim p48 p54)] at heq
                        refine c_seq (fun _ hK16 => ?_)
                        refine c_region ?_
                        refine s_move H wn rfl rfl ?_; clear H; intro a H
                        refine s_move H wn rfl rfl ?_; clear H; intro a H
                        refine s_split H 56 rfl ?_ ?_
                        · intro h56
                          try have p56 := of_decide_eq_true h56
                          first
                          | (exfalso; omega)
                          | (exact absurd h56 (by decide))
                          | skip
                            rw [h56, Bool.true_or] at heq
                            refine s_skip H rfl rfl h56 rfl ?_; clear H; intro a H
                            refine s_skip H rfl rfl h56 rfl ?_; clear H; intro a H
                            refine s_skip H rfl rfl h56 rfl ?_; clear H; intro a H
                            refine s_skip H rfl rfl h56 rfl ?_; clear H; intro a H
                            refine s_skip H rfl rfl h56 rfl ?_; clear H; intro a H
                            refine s_pick_t H wn rfl h56 rfl rfl ?_; clear H; intro a H
                            refine s_assign H wn rfl rfl ?_; clear H; intro a H
                            refine wl_nil ?_
                            refine hK16 _ _ ?_; clear hK16
                            refine c_exit ?_
                            refine hK9 _ _ ?_; clear hK9
                            refine c_region ?_
                            refine s_move H wn rfl rfl ?_; clear H; intro a H
                            refine s_add _ H wn rfl rfl rfl (by omega) (by omega) rfl ?_; clear H; intro a H
                            refine s_assign H wn rfl rfl ?_; clear H; intro a H
                            refine wl_nil ?_
                            refine loop_end ((n + 1, fr, true, A, v, xs, Lo)) (by exact (H).sub ⟨rfl, rfl, rfl, rfl, rfl, trivial⟩) ?_ ?_
                            · try dsimp only
                              exact ⟨by omega, by omega, hrw, hcat, heq⟩
                            · first | omega | (dsimp only; omega)
                        · intro h56
                          try have p56 := of_decide_eq_false h56
                          first
                          | (exfalso; omega)
                          | (exact absurd h56 (by decide))
                          | skip
                            rw [h56, Bool.false_or] at heq
                            refine s_move H (wg H rfl rfl h56) rfl rfl ?_; clear H; intro a H
                            refine s_move H (wg H rfl rfl h56) rfl rfl ?_; clear H; intro a H
                            refine s_index un92l14d ty3l14d _ H (wg H rfl rfl h56) rfl rfl rfl (by first | assumption | omega) rfl ?_; clear H; intro a H
                            refine s_load ty3l14d H (wg H rfl rfl h56) rfl (H.hp.gcell (by assumption)) rfl ?_; clear H; intro a H
                            refine s_cmp H (wg H rfl rfl h56) rfl rfl rfl rfl ?_; clear H; intro a H
                            refine s_pick_f H wn rfl h56 rfl rfl ?_; clear H; intro a H
                            refine s_assign H wn rfl rfl ?_; clear H; intro a H
                            refine wl_nil ?_
                            refine hK16 _ _ ?_; clear hK16
                            refine c_exit ?_
                            refine hK9 _ _ ?_; clear hK9
                            refine c_region ?_
                            refine s_move H wn rfl rfl ?_; clear H; intro a H
                            refine s_add _ H wn rfl rfl rfl (by omega) (by omega) rfl ?_; clear H; intro a H
                            refine s_assign H wn rfl rfl ?_; clear H; intro a H
                            refine wl_nil ?_
                            refine loop_end ((n + 1, fr, decide (¬ ks[n] = 8), A, v, xs, Lo)) (by exact (H).sub ⟨rfl, rfl, rfl, rfl, rfl, trivial⟩) ?_ ?_
                            · try dsimp only
                              exact ⟨by omega, by omega, hrw, hcat, heq⟩
                            · first | omega | (dsimp only; omega)
                    · intro h54
                      try have p54 := of_decide_eq_false h54
                      first
                      | (exfalso; omega)
                      | (exact absurd h54 (by decide))
                      | skip
                        rw [if_pos (.inr (Decidable.not_not.1 p54))] at heq
                        refine c_skip ?_
                        refine hK14 _ _ ?_; clear hK14
                        refine c_seq (fun _ hK17 => ?_)
                        refine c_seq (fun _ hK18 => ?_)
                        refine c_region ?_
                        refine s_move H wn rfl rfl ?_; clear H; intro a H
                        refine s_move H wn rfl rfl ?_; clear H; intro a H
                        refine s_cmp H wn rfl rfl rfl rfl ?_; clear H; intro a H
                        refine s_move H wn rfl rfl ?_; clear H; intro a H
                        refine s_split H 66 rfl ?_ ?_
                        · intro h66
                          try have p66 := of_decide_eq_true h66
                          first
                          | (exfalso; omega)
                          | (exact absurd h66 (by decide))
                          | skip
                            refine s_move H (wg H rfl rfl h66) rfl rfl ?_; clear H; intro a H
                            refine s_pick_t H wn rfl h66 rfl rfl ?_; clear H; intro a H
                            refine wl_nil ?_
                            refine hK18 _ _ ?_; clear hK18
                            refine c_cond H rfl ?_ ?_
                            · intro h68
                              try have p68 := of_decide_eq_true h68
                              first
                              | (exfalso; omega)
                              | (exact absurd h68 (by decide))
                              | skip
                                subst h68
                                rw [tailM_t (by omega)] at heq
                                refine c_region ?_
                                refine s_move H wn rfl rfl ?_; clear H; intro a H
                                refine s_move H wn rfl rfl ?_; clear H; intro a H
                                refine s_move H wn rfl rfl ?_; clear H; intro a H
                                refine s_build sr37l14d [_, _, _, _] H wn rfl rfl rfl rfl ?_; clear H; intro a H
                                refine s_buildSlice un33l14d ty37l14d [_, _, _, _] [_, _, _, _] H wn rfl rfl rfl rfl rfl (by intro i q h; match i, h with | 0, h => exact h | n + 1, h => simp at h) rfl rfl ?_; clear H; intro b73 a w hb73 H
                                refine s_append (Li := [_]) (Lo := Lo) (news := bkCells ⟨1, fr, n, false⟩) un33l14d ty37l14d rfl rfl H wn rfl rfl hrw rfl (H.hp.ocells 0 rfl rfl) rfl (by omega) (by omega) rfl ?_; clear H; intro v Lo a w hrwn H
                                obtain ⟨A, xs, hrw, hcat, heq⟩ := bstep _ hrwn hcat heq
                                have hal : A.length ≤ 2147483649 := by have := congrArg List.length heq; rw [List.length_append] at this; omega
                                refine s_assign H wn rfl rfl ?_; clear H; intro a H
                                refine wl_nil ?_
                                refine hK17 _ _ ?_; clear hK17
                                refine c_seq (fun _ hK19 => ?_)
                                refine c_seq (fun _ hK20 => ?_)
                                refine c_region ?_
                                refine s_move H wn rfl rfl ?_; clear H; intro a H
                                refine s_move H wn rfl rfl ?_; clear H; intro a H
                                refine s_cmp H wn rfl rfl rfl rfl ?_; clear H; intro a H
                                refine s_move H wn rfl rfl ?_; clear H; intro a H
                                refine s_move H (wg H rfl rfl h66) rfl rfl ?_; clear H; intro a H
                                refine s_not H (wg H rfl rfl h66) rfl rfl ?_; clear H; intro a H
                                refine s_pick_t H wn rfl h66 rfl rfl ?_; clear H; intro a H
                                refine wl_nil ?_
                                refine hK20 _ _ ?_; clear hK20
                                refine c_cond_f H rfl rfl ?_
                                refine c_skip ?_
                                refine hK19 _ _ ?_; clear hK19
                                refine c_seq (fun _ hK21 => ?_)
                                refine c_seq (fun _ hK22 => ?_)
                                refine c_region ?_
                                refine s_move H wn rfl rfl ?_; clear H; intro a H
                                refine s_move H wn rfl rfl ?_; clear H; intro a H
                                refine s_len un92l14d H wn rfl rfl ?_; clear H; intro a H
                                refine s_cmp H wn rfl rfl rfl rfl ?_; clear H; intro a H
                                refine wl_nil ?_
                                refine hK22 _ _ ?_; clear hK22
                                refine c_cond_t H rfl h21 ?_
                                refine c_seq (fun _ hK23 => ?_)
                                refine c_region ?_
                                refine s_assign H wn rfl rfl ?_; clear H; intro a H
                                refine wl_nil ?_
                                refine hK23 _ _ ?_; clear hK23
                                refine c_seq (fun _ hK24 => ?_)
                                refine c_seq (fun _ hK25 => ?_)
                                refine c_region ?_
                                refine s_move H wn rfl rfl ?_; clear H; intro a H
                                refine s_move H wn rfl rfl ?_; clear H; intro a H
                                refine s_index un92l14d ty3l14d _ H wn rfl rfl rfl (by first | assumption | omega) rfl ?_; clear H; intro a H
                                refine s_load ty3l14d H wn rfl (H.hp.gcell (by assumption)) rfl ?_; clear H; intro a H
                                refine s_cmp H wn rfl rfl rfl rfl ?_; clear H; intro a H
                                refine wl_nil ?_
                                refine hK25 _ _ ?_; clear hK25
                                refine c_cond H rfl ?_ ?_
                                · intro h96
                                  try have p96 := of_decide_eq_true h96
                                  first
                                  | (exfalso; omega)
                                  | (exact absurd h96 (by decide))
                                  | skip
                                    rw [if_pos p96] at heq
                                    refine c_region ?_
                                    refine s_assign H wn rfl rfl ?_; clear H; intro a H
                                    refine wl_nil ?_
                                    refine hK24 _ _ ?_; clear hK24
                                    refine c_region ?_
                                    refine s_move H wn rfl rfl ?_; clear H; intro a H
                                    refine s_move H wn rfl rfl ?_; clear H; intro a H
                                    refine s_move H wn rfl rfl ?_; clear H; intro a H
                                    refine s_move H wn rfl rfl ?_; clear H; intro a H
                                    refine s_add _ H wn rfl rfl rfl (by omega) (by omega) rfl ?_; clear H; intro a H
                                    refine s_build sr37l14d [_, _, _, _] H wn rfl rfl rfl rfl ?_; clear H; intro a H
                                    refine s_buildSlice un33l14d ty37l14d [_, _, _, _] [_, _, _, _] H wn rfl rfl rfl rfl rfl (by intro i q h; match i, h with | 0, h => exact h | n + 1, h => simp at h) rfl rfl ?_; clear H; intro b103 a w hb103 H
                                    first
                                      | refine s_append (Li := [_]) (Lo := Lo) (news := bkCells ⟨_, n, n + 1, false⟩) un33l14d ty37l14d rfl rfl H wn rfl rfl hrw rfl (H.hp.ocells 0 rfl rfl) rfl (by omega) (by omega) rfl ?_
                                      | refine s_append (Li := [_, _]) (Lo := Lo) (news := bkCells ⟨_, n, n + 1, false⟩) un33l14d ty37l14d rfl rfl H wn rfl rfl hrw rfl (H.hp.ocells 0 rfl rfl) rfl (by omega) (by omega) rfl ?_
                                    clear H; intro v Lo a w hrwn H
                                    obtain ⟨A, xs, hrw, hcat, heq⟩ := bstep _ hrwn hcat heq
                                    refine s_assign H wn rfl rfl ?_; clear H; intro a H
                                    refine wl_nil ?_
                                    refine hK21 _ _ ?_; clear hK21
                                    refine c_region ?_
                                    refine s_move H wn rfl rfl ?_; clear H; intro a H
                                    refine s_add _ H wn rfl rfl rfl (by omega) (by omega) rfl ?_; clear H; intro a H
                                    refine s_assign H wn rfl rfl ?_; clear H; intro a H
                                    refine s_assign H wn rfl rfl ?_; clear H; intro a H
                                    refine wl_nil ?_
                                    refine hK9 _ _ ?_; clear hK9
                                    refine c_region ?_
                                    refine s_move H wn rfl rfl ?_; clear H; intro a H
                                    refine s_add _ H wn rfl rfl rfl (by omega) (by omega) rfl ?_; clear H; intro a H
                                    refine s_assign H wn rfl rfl ?_; clear H; intro a H
                                    refine wl_nil ?_
                                    refine loop_end ((n + 1, n + 1, false, A, v, xs, Lo)) (by exact (H.pickT (Pl := [_, _]) (Pl' := []) [] (by decide) rfl).sub ⟨rfl, rfl, rfl, rfl, rfl, trivial⟩) ?_ ?_
                                    · try dsimp only
                                      first
                                      | exact ⟨by omega, by omega, hrw, hcat, heq⟩
                                      | exact ⟨by omega, by omega, hrw, hcat, by rw [restM_off (by omega)]; exact heq⟩
                                    · first | omega | (dsimp only; omega)
                                · intro h96
                                  try have p96 := of_decide_eq_false h96
                                  first
                                  | (exfalso; omega)
                                  | (exact absurd h96 (by decide))
                                  | skip
                                    rw [if_neg p96] at heq
                                    refine c_skip ?_
                                    refine hK24 _ _ ?_; clear hK24
                                    refine c_region ?_
                                    refine s_move H wn rfl rfl ?_; clear H; intro a H
                                    refine s_move H wn rfl rfl ?_; clear H; intro a H
                                    refine s_move H wn rfl rfl ?_; clear H; intro a H
                                    refine s_move H wn rfl rfl ?_; clear H; intro a H
                                    refine s_add _ H wn rfl rfl rfl (by omega) (by omega) rfl ?_; clear H; intro a H
                                    refine s_build sr37l14d [_, _, _, _] H wn rfl rfl rfl rfl ?_; clear H; intro a H
                                    refine s_buildSlice un33l14d ty37l14d [_, _, _, _] [_, _, _, _] H wn rfl rfl rfl rfl rfl (by intro i q h; match i, h with | 0, h => exact h | n + 1, h => simp at h) rfl rfl ?_; clear H; intro b103 a w hb103 H
                                    first
                                      | refine s_append (Li := [_]) (Lo := Lo) (news := bkCells ⟨_, n, n + 1, false⟩) un33l14d ty37l14d rfl rfl H wn rfl rfl hrw rfl (H.hp.ocells 0 rfl rfl) rfl (by omega) (by omega) rfl ?_
                                      | refine s_append (Li := [_, _]) (Lo := Lo) (news := bkCells ⟨_, n, n + 1, false⟩) un33l14d ty37l14d rfl rfl H wn rfl rfl hrw rfl (H.hp.ocells 0 rfl rfl) rfl (by omega) (by omega) rfl ?_
                                    clear H; intro v Lo a w hrwn H
                                    obtain ⟨A, xs, hrw, hcat, heq⟩ := bstep _ hrwn hcat heq
                                    refine s_assign H wn rfl rfl ?_; clear H; intro a H
                                    refine wl_nil ?_
                                    refine hK21 _ _ ?_; clear hK21
                                    refine c_region ?_
                                    refine s_move H wn rfl rfl ?_; clear H; intro a H
                                    refine s_add _ H wn rfl rfl rfl (by omega) (by omega) rfl ?_; clear H; intro a H
                                    refine s_assign H wn rfl rfl ?_; clear H; intro a H
                                    refine s_assign H wn rfl rfl ?_; clear H; intro a H
                                    refine wl_nil ?_
                                    refine hK9 _ _ ?_; clear hK9
                                    refine c_region ?_
                                    refine s_move H wn rfl rfl ?_; clear H; intro a H
                                    refine s_add _ H wn rfl rfl rfl (by omega) (by omega) rfl ?_; clear H; intro a H
                                    refine s_assign H wn rfl rfl ?_; clear H; intro a H
                                    refine wl_nil ?_
                                    refine loop_end ((n + 1, n + 1, false, A, v, xs, Lo)) (by exact (H.pickT (Pl := [_, _]) (Pl' := []) [] (by decide) rfl).sub ⟨rfl, rfl, rfl, rfl, rfl, trivial⟩) ?_ ?_
                                    · try dsimp only
                                      first
                                      | exact ⟨by omega, by omega, hrw, hcat, heq⟩
                                      | exact ⟨by omega, by omega, hrw, hcat, by rw [restM_off (by omega)]; exact heq⟩
                                    · first | omega | (dsimp only; omega)
                            · intro h68
                              try have p68 := of_decide_eq_false h68
                              first
                              | (exfalso; omega)
                              | (exact absurd h68 (by decide))
                              | skip
                                subst h68
                                rw [tailM_f (by omega)] at heq
                                refine c_skip ?_
                                refine hK17 _ _ ?_; clear hK17
                                refine c_seq (fun _ hK26 => ?_)
                                refine c_seq (fun _ hK27 => ?_)
                                refine c_region ?_
                                refine s_move H wn rfl rfl ?_; clear H; intro a H
                                refine s_move H wn rfl rfl ?_; clear H; intro a H
                                refine s_cmp H wn rfl rfl rfl rfl ?_; clear H; intro a H
                                refine s_move H wn rfl rfl ?_; clear H; intro a H
                                refine s_move H (wg H rfl rfl h66) rfl rfl ?_; clear H; intro a H
                                refine s_not H (wg H rfl rfl h66) rfl rfl ?_; clear H; intro a H
                                refine s_pick_t H wn rfl h66 rfl rfl ?_; clear H; intro a H
                                refine wl_nil ?_
                                refine hK27 _ _ ?_; clear hK27
                                refine c_cond_t H rfl rfl ?_
                                refine c_region ?_
                                refine s_move H wn rfl rfl ?_; clear H; intro a H
                                refine s_move H wn rfl rfl ?_; clear H; intro a H
                                refine s_move H wn rfl rfl ?_; clear H; intro a H
                                refine s_build sr37l14d [_, _, _, _] H wn rfl rfl rfl rfl ?_; clear H; intro a H
                                refine s_buildSlice un33l14d ty37l14d [_, _, _, _] [_, _, _, _] H wn rfl rfl rfl rfl rfl (by intro i q h; match i, h with | 0, h => exact h | n + 1, h => simp at h) rfl rfl ?_; clear H; intro b86 a w hb86 H
                                refine s_append (Li := [_]) (Lo := Lo) (news := bkCells ⟨4, fr, n, false⟩) un33l14d ty37l14d rfl rfl H wn rfl rfl hrw rfl (H.hp.ocells 0 rfl rfl) rfl (by omega) (by omega) rfl ?_; clear H; intro v Lo a w hrwn H
                                obtain ⟨A, xs, hrw, hcat, heq⟩ := bstep _ hrwn hcat heq
                                have hal : A.length ≤ 2147483649 := by have := congrArg List.length heq; rw [List.length_append] at this; omega
                                refine s_assign H wn rfl rfl ?_; clear H; intro a H
                                refine wl_nil ?_
                                refine hK26 _ _ ?_; clear hK26
                                refine c_seq (fun _ hK28 => ?_)
                                refine c_seq (fun _ hK29 => ?_)
                                refine c_region ?_
                                refine s_move H wn rfl rfl ?_; clear H; intro a H
                                refine s_move H wn rfl rfl ?_; clear H; intro a H
                                refine s_len un92l14d H wn rfl rfl ?_; clear H; intro a H
                                refine s_cmp H wn rfl rfl rfl rfl ?_; clear H; intro a H
                                refine wl_nil ?_
                                refine hK29 _ _ ?_; clear hK29
                                refine c_cond_t H rfl h21 ?_
                                refine c_seq (fun _ hK30 => ?_)
                                refine c_region ?_
                                refine s_assign H wn rfl rfl ?_; clear H; intro a H
                                refine wl_nil ?_
                                refine hK30 _ _ ?_; clear hK30
                                refine c_seq (fun _ hK31 => ?_)
                                refine c_seq (fun _ hK32 => ?_)
                                refine c_region ?_
                                refine s_move H wn rfl rfl ?_; clear H; intro a H
                                refine s_move H wn rfl rfl ?_; clear H; intro a H
                                refine s_index un92l14d ty3l14d _ H wn rfl rfl rfl (by first | assumption | omega) rfl ?_; clear H; intro a H
                                refine s_load ty3l14d H wn rfl (H.hp.gcell (by assumption)) rfl ?_; clear H; intro a H
                                refine s_cmp H wn rfl rfl rfl rfl ?_; clear H; intro a H
                                refine wl_nil ?_
                                refine hK32 _ _ ?_; clear hK32
                                refine c_cond H rfl ?_ ?_
                                · intro h96
                                  try have p96 := of_decide_eq_true h96
                                  first
                                  | (exfalso; omega)
                                  | (exact absurd h96 (by decide))
                                  | skip
                                    rw [if_pos p96] at heq
                                    refine c_region ?_
                                    refine s_assign H wn rfl rfl ?_; clear H; intro a H
                                    refine wl_nil ?_
                                    refine hK31 _ _ ?_; clear hK31
                                    refine c_region ?_
                                    refine s_move H wn rfl rfl ?_; clear H; intro a H
                                    refine s_move H wn rfl rfl ?_; clear H; intro a H
                                    refine s_move H wn rfl rfl ?_; clear H; intro a H
                                    refine s_move H wn rfl rfl ?_; clear H; intro a H
                                    refine s_add _ H wn rfl rfl rfl (by omega) (by omega) rfl ?_; clear H; intro a H
                                    refine s_build sr37l14d [_, _, _, _] H wn rfl rfl rfl rfl ?_; clear H; intro a H
                                    refine s_buildSlice un33l14d ty37l14d [_, _, _, _] [_, _, _, _] H wn rfl rfl rfl rfl rfl (by intro i q h; match i, h with | 0, h => exact h | n + 1, h => simp at h) rfl rfl ?_; clear H; intro b103 a w hb103 H
                                    first
                                      | refine s_append (Li := [_]) (Lo := Lo) (news := bkCells ⟨_, n, n + 1, false⟩) un33l14d ty37l14d rfl rfl H wn rfl rfl hrw rfl (H.hp.ocells 0 rfl rfl) rfl (by omega) (by omega) rfl ?_
                                      | refine s_append (Li := [_, _]) (Lo := Lo) (news := bkCells ⟨_, n, n + 1, false⟩) un33l14d ty37l14d rfl rfl H wn rfl rfl hrw rfl (H.hp.ocells 0 rfl rfl) rfl (by omega) (by omega) rfl ?_
                                    clear H; intro v Lo a w hrwn H
                                    obtain ⟨A, xs, hrw, hcat, heq⟩ := bstep _ hrwn hcat heq
                                    refine s_assign H wn rfl rfl ?_; clear H; intro a H
                                    refine wl_nil ?_
                                    refine hK28 _ _ ?_; clear hK28
                                    refine c_region ?_
                                    refine s_move H wn rfl rfl ?_; clear H; intro a H
                                    refine s_add _ H wn rfl rfl rfl (by omega) (by omega) rfl ?_; clear H; intro a H
                                    refine s_assign H wn rfl rfl ?_; clear H; intro a H
                                    refine s_assign H wn rfl rfl ?_; clear H; intro a H
                                    refine wl_nil ?_
                                    refine hK9 _ _ ?_; clear hK9
                                    refine c_region ?_
                                    refine s_move H wn rfl rfl ?_; clear H; intro a H
                                    refine s_add _ H wn rfl rfl rfl (by omega) (by omega) rfl ?_; clear H; intro a H
                                    refine s_assign H wn rfl rfl ?_; clear H; intro a H
                                    refine wl_nil ?_
                                    refine loop_end ((n + 1, n + 1, false, A, v, xs, Lo)) (by exact (H.pickT (Pl := [_, _]) (Pl' := []) [] (by decide) rfl).sub ⟨rfl, rfl, rfl, rfl, rfl, trivial⟩) ?_ ?_
                                    · try dsimp only
                                      first
                                      | exact ⟨by omega, by omega, hrw, hcat, heq⟩
                                      | exact ⟨by omega, by omega, hrw, hcat, by rw [restM_off (by omega)]; exact heq⟩
                                    · first | omega | (dsimp only; omega)
                                · intro h96
                                  try have p96 := of_decide_eq_false h96
                                  first
                                  | (exfalso; omega)
                                  | (exact absurd h96 (by decide))
                                  | skip
                                    rw [if_neg p96] at heq
                                    refine c_skip ?_
                                    refine hK31 _ _ ?_; clear hK31
                                    refine c_region ?_
                                    refine s_move H wn rfl rfl ?_; clear H; intro a H
                                    refine s_move H wn rfl rfl ?_; clear H; intro a H
                                    refine s_move H wn rfl rfl ?_; clear H; intro a H
                                    refine s_move H wn rfl rfl ?_; clear H; intro a H
                                    refine s_add _ H wn rfl rfl rfl (by omega) (by omega) rfl ?_; clear H; intro a H
                                    refine s_build sr37l14d [_, _, _, _] H wn rfl rfl rfl rfl ?_; clear H; intro a H
                                    refine s_buildSlice un33l14d ty37l14d [_, _, _, _] [_, _, _, _] H wn rfl rfl rfl rfl rfl (by intro i q h; match i, h with | 0, h => exact h | n + 1, h => simp at h) rfl rfl ?_; clear H; intro b103 a w hb103 H
                                    first
                                      | refine s_append (Li := [_]) (Lo := Lo) (news := bkCells ⟨_, n, n + 1, false⟩) un33l14d ty37l14d rfl rfl H wn rfl rfl hrw rfl (H.hp.ocells 0 rfl rfl) rfl (by omega) (by omega) rfl ?_
                                      | refine s_append (Li := [_, _]) (Lo := Lo) (news := bkCells ⟨_, n, n + 1, false⟩) un33l14d ty37l14d rfl rfl H wn rfl rfl hrw rfl (H.hp.ocells 0 rfl rfl) rfl (by omega) (by omega) rfl ?_
                                    clear H; intro v Lo a w hrwn H
                                    obtain ⟨A, xs, hrw, hcat, heq⟩ := bstep _ hrwn hcat heq
                                    refine s_assign H wn rfl rfl ?_; clear H; intro a H
                                    refine wl_nil ?_
                                    refine hK28 _ _ ?_; clear hK28
                                    refine c_region ?_
                                    refine s_move H wn rfl rfl ?_; clear H; intro a H
                                    refine s_add _ H wn rfl rfl rfl (by omega) (by omega) rfl ?_; clear H; intro a H
                                    refine s_assign H wn rfl rfl ?_; clear H; intro a H
                                    refine s_assign H wn rfl rfl ?_; clear H; intro a H
                                    refine wl_nil ?_
                                    refine hK9 _ _ ?_; clear hK9
                                    refine c_region ?_
                                    refine s_move H wn rfl rfl ?_; clear H; intro a H
                                    refine s_add _ H wn rfl rfl rfl (by omega) (by omega) rfl ?_; clear H; intro a H
                                    refine s_assign H wn rfl rfl ?_; clear H; intro a H
                                    refine wl_nil ?_
                                    refine loop_end ((n + 1, n + 1, false, A, v, xs, Lo)) (by exact (H.pickT (Pl := [_, _]) (Pl' := []) [] (by decide) rfl).sub ⟨rfl, rfl, rfl, rfl, rfl, trivial⟩) ?_ ?_
                                    · try dsimp only
                                      first
                                      | exact ⟨by omega, by omega, hrw, hcat, heq⟩
                                      | exact ⟨by omega, by omega, hrw, hcat, by rw [restM_off (by omega)]; exact heq⟩
                                    · first | omega | (dsimp only; omega)
                        · intro h66
                          try have p66 := of_decide_eq_false h66
                          first
                          | (exfalso; omega)
                          | (exact absurd h66 (by decide))
                          | skip
                            rw [tailM_no (by omega)] at heq
                            refine s_skip H rfl rfl h66 rfl ?_; clear H; intro a H
                            refine s_pick_f H wn rfl h66 rfl rfl ?_; clear H; intro a H
                            refine wl_nil ?_
                            refine hK18 _ _ ?_; clear hK18
                            refine c_cond_f H rfl rfl ?_
                            refine c_skip ?_
                            refine hK17 _ _ ?_; clear hK17
                            refine c_seq (fun _ hK33 => ?_)
                            refine c_seq (fun _ hK34 => ?_)
                            refine c_region ?_
                            refine s_move H wn rfl rfl ?_; clear H; intro a H
                            refine s_move H wn rfl rfl ?_; clear H; intro a H
                            refine s_cmp H wn rfl rfl rfl rfl ?_; clear H; intro a H
                            refine s_move H wn rfl rfl ?_; clear H; intro a H
                            refine s_skip H rfl rfl h66 rfl ?_; clear H; intro a H
                            refine s_skip H rfl rfl h66 rfl ?_; clear H; intro a H
                            refine s_pick_f H wn rfl h66 rfl rfl ?_; clear H; intro a H
                            refine wl_nil ?_
                            refine hK34 _ _ ?_; clear hK34
                            refine c_cond_f H rfl rfl ?_
                            refine c_skip ?_
                            refine hK33 _ _ ?_; clear hK33
                            refine c_seq (fun _ hK35 => ?_)
                            refine c_seq (fun _ hK36 => ?_)
                            refine c_region ?_
                            refine s_move H wn rfl rfl ?_; clear H; intro a H
                            refine s_move H wn rfl rfl ?_; clear H; intro a H
                            refine s_len un92l14d H wn rfl rfl ?_; clear H; intro a H
                            refine s_cmp H wn rfl rfl rfl rfl ?_; clear H; intro a H
                            refine wl_nil ?_
                            refine hK36 _ _ ?_; clear hK36
                            refine c_cond_t H rfl h21 ?_
                            refine c_seq (fun _ hK37 => ?_)
                            refine c_region ?_
                            refine s_assign H wn rfl rfl ?_; clear H; intro a H
                            refine wl_nil ?_
                            refine hK37 _ _ ?_; clear hK37
                            refine c_seq (fun _ hK38 => ?_)
                            refine c_seq (fun _ hK39 => ?_)
                            refine c_region ?_
                            refine s_move H wn rfl rfl ?_; clear H; intro a H
                            refine s_move H wn rfl rfl ?_; clear H; intro a H
                            refine s_index un92l14d ty3l14d _ H wn rfl rfl rfl (by first | assumption | omega) rfl ?_; clear H; intro a H
                            refine s_load ty3l14d H wn rfl (H.hp.gcell (by assumption)) rfl ?_; clear H; intro a H
                            refine s_cmp H wn rfl rfl rfl rfl ?_; clear H; intro a H
                            refine wl_nil ?_
                            refine hK39 _ _ ?_; clear hK39
                            refine c_cond H rfl ?_ ?_
                            · intro h96
                              try have p96 := of_decide_eq_true h96
                              first
                              | (exfalso; omega)
                              | (exact absurd h96 (by decide))
                              | skip
                                rw [if_pos p96] at heq
                                refine c_region ?_
                                refine s_assign H wn rfl rfl ?_; clear H; intro a H
                                refine wl_nil ?_
                                refine hK38 _ _ ?_; clear hK38
                                refine c_region ?_
                                refine s_move H wn rfl rfl ?_; clear H; intro a H
                                refine s_move H wn rfl rfl ?_; clear H; intro a H
                                refine s_move H wn rfl rfl ?_; clear H; intro a H
                                refine s_move H wn rfl rfl ?_; clear H; intro a H
                                refine s_add _ H wn rfl rfl rfl (by omega) (by omega) rfl ?_; clear H; intro a H
                                refine s_build sr37l14d [_, _, _, _] H wn rfl rfl rfl rfl ?_; clear H; intro a H
                                refine s_buildSlice un33l14d ty37l14d [_, _, _, _] [_, _, _, _] H wn rfl rfl rfl rfl rfl (by intro i q h; match i, h with | 0, h => exact h | n + 1, h => simp at h) rfl rfl ?_; clear H; intro b103 a w hb103 H
                                first
                                  | refine s_append (Li := [_]) (Lo := Lo) (news := bkCells ⟨_, n, n + 1, false⟩) un33l14d ty37l14d rfl rfl H wn rfl rfl hrw rfl (H.hp.ocells 0 rfl rfl) rfl (by omega) (by omega) rfl ?_
                                  | refine s_append (Li := [_, _]) (Lo := Lo) (news := bkCells ⟨_, n, n + 1, false⟩) un33l14d ty37l14d rfl rfl H wn rfl rfl hrw rfl (H.hp.ocells 0 rfl rfl) rfl (by omega) (by omega) rfl ?_
                                clear H; intro v Lo a w hrwn H
                                obtain ⟨A, xs, hrw, hcat, heq⟩ := bstep _ hrwn hcat heq
                                refine s_assign H wn rfl rfl ?_; clear H; intro a H
                                refine wl_nil ?_
                                refine hK35 _ _ ?_; clear hK35
                                refine c_region ?_
                                refine s_move H wn rfl rfl ?_; clear H; intro a H
                                refine s_add _ H wn rfl rfl rfl (by omega) (by omega) rfl ?_; clear H; intro a H
                                refine s_assign H wn rfl rfl ?_; clear H; intro a H
                                refine s_assign H wn rfl rfl ?_; clear H; intro a H
                                refine wl_nil ?_
                                refine hK9 _ _ ?_; clear hK9
                                refine c_region ?_
                                refine s_move H wn rfl rfl ?_; clear H; intro a H
                                refine s_add _ H wn rfl rfl rfl (by omega) (by omega) rfl ?_; clear H; intro a H
                                refine s_assign H wn rfl rfl ?_; clear H; intro a H
                                refine wl_nil ?_
                                refine loop_end ((n + 1, n + 1, false, A, v, xs, Lo)) (by exact (H.pickT (Pl := [_]) (Pl' := []) [] (by decide) rfl).sub ⟨rfl, rfl, rfl, rfl, rfl, trivial⟩) ?_ ?_
                                · try dsimp only
                                  first
                                  | exact ⟨by omega, by omega, hrw, hcat, heq⟩
                                  | exact ⟨by omega, by omega, hrw, hcat, by rw [restM_off (by omega)]; exact heq⟩
                                · first | omega | (dsimp only; omega)
                            · intro h96
                              try have p96 := of_decide_eq_false h96
                              first
                              | (exfalso; omega)
                              | (exact absurd h96 (by decide))
                              | skip
                                rw [if_neg p96] at heq
                                refine c_skip ?_
                                refine hK38 _ _ ?_; clear hK38
                                refine c_region ?_
                                refine s_move H wn rfl rfl ?_; clear H; intro a H
                                refine s_move H wn rfl rfl ?_; clear H; intro a H
                                refine s_move H wn rfl rfl ?_; clear H; intro a H
                                refine s_move H wn rfl rfl ?_; clear H; intro a H
                                refine s_add _ H wn rfl rfl rfl (by omega) (by omega) rfl ?_; clear H; intro a H
                                refine s_build sr37l14d [_, _, _, _] H wn rfl rfl rfl rfl ?_; clear H; intro a H
                                refine s_buildSlice un33l14d ty37l14d [_, _, _, _] [_, _, _, _] H wn rfl rfl rfl rfl rfl (by intro i q h; match i, h with | 0, h => exact h | n + 1, h => simp at h) rfl rfl ?_; clear H; intro b103 a w hb103 H
                                first
                                  | refine s_append (Li := [_]) (Lo := Lo) (news := bkCells ⟨_, n, n + 1, false⟩) un33l14d ty37l14d rfl rfl H wn rfl rfl hrw rfl (H.hp.ocells 0 rfl rfl) rfl (by omega) (by omega) rfl ?_
                                  | refine s_append (Li := [_, _]) (Lo := Lo) (news := bkCells ⟨_, n, n + 1, false⟩) un33l14d ty37l14d rfl rfl H wn rfl rfl hrw rfl (H.hp.ocells 0 rfl rfl) rfl (by omega) (by omega) rfl ?_
                                clear H; intro v Lo a w hrwn H
                                obtain ⟨A, xs, hrw, hcat, heq⟩ := bstep _ hrwn hcat heq
                                refine s_assign H wn rfl rfl ?_; clear H; intro a H
                                refine wl_nil ?_
                                refine hK35 _ _ ?_; clear hK35
                                refine c_region ?_
                                refine s_move H wn rfl rfl ?_; clear H; intro a H
                                refine s_add _ H wn rfl rfl rfl (by omega) (by omega) rfl ?_; clear H; intro a H
                                refine s_assign H wn rfl rfl ?_; clear H; intro a H
                                refine s_assign H wn rfl rfl ?_; clear H; intro a H
                                refine wl_nil ?_
                                refine hK9 _ _ ?_; clear hK9
                                refine c_region ?_
                                refine s_move H wn rfl rfl ?_; clear H; intro a H
                                refine s_add _ H wn rfl rfl rfl (by omega) (by omega) rfl ?_; clear H; intro a H
                                refine s_assign H wn rfl rfl ?_; clear H; intro a H
                                refine wl_nil ?_
                                refine loop_end ((n + 1, n + 1, false, A, v, xs, Lo)) (by exact (H.pickT (Pl := [_]) (Pl' := []) [] (by decide) rfl).sub ⟨rfl, rfl, rfl, rfl, rfl, trivial⟩) ?_ ?_
                                · try dsimp only
                                  first
                                  | exact ⟨by omega, by omega, hrw, hcat, heq⟩
                                  | exact ⟨by omega, by omega, hrw, hcat, by rw [restM_off (by omega)]; exact heq⟩
                                · first | omega | (dsimp only; omega)
                · intro h48
                  try have p48 := of_decide_eq_false h48
                  first
                  | (exfalso; omega)
                  | (exact absurd h48 (by decide))
                  | skip
                    rw [if_pos (.inl (Decidable.not_not.1 p48))] at heq
                    refine s_skip H rfl rfl h48 rfl ?_; clear H; intro a H
                    refine s_skip H rfl rfl h48 rfl ?_; clear H; intro a H
                    refine s_skip H rfl rfl h48 rfl ?_; clear H; intro a H
                    refine s_skip H rfl rfl h48 rfl ?_; clear H; intro a H
                    refine s_skip H rfl rfl h48 rfl ?_; clear H; intro a H
                    refine s_pick_f H wn rfl h48 rfl rfl ?_; clear H; intro a H
                    refine wl_nil ?_
                    refine hK15 _ _ ?_; clear hK15
                    refine c_cond_f H rfl rfl ?_
                    refine c_skip ?_
                    refine hK14 _ _ ?_; clear hK14
                    refine c_seq (fun _ hK40 => ?_)
                    refine c_seq (fun _ hK41 => ?_)
                    refine c_region ?_
                    refine s_move H wn rfl rfl ?_; clear H; intro a H
                    refine s_move H wn rfl rfl ?_; clear H; intro a H
                    refine s_cmp H wn rfl rfl rfl rfl ?_; clear H; intro a H
                    refine s_move H wn rfl rfl ?_; clear H; intro a H
                    refine s_split H 66 rfl ?_ ?_
                    · intro h66
                      try have p66 := of_decide_eq_true h66
                      first
                      | (exfalso; omega)
                      | (exact absurd h66 (by decide))
                      | skip
                        refine s_move H (wg H rfl rfl h66) rfl rfl ?_; clear H; intro a H
                        refine s_pick_t H wn rfl h66 rfl rfl ?_; clear H; intro a H
                        refine wl_nil ?_
                        refine hK41 _ _ ?_; clear hK41
                        refine c_cond H rfl ?_ ?_
                        · intro h68
                          try have p68 := of_decide_eq_true h68
                          first
                          | (exfalso; omega)
                          | (exact absurd h68 (by decide))
                          | skip
                            subst h68
                            rw [tailM_t (by omega)] at heq
                            refine c_region ?_
                            refine s_move H wn rfl rfl ?_; clear H; intro a H
                            refine s_move H wn rfl rfl ?_; clear H; intro a H
                            refine s_move H wn rfl rfl ?_; clear H; intro a H
                            refine s_build sr37l14d [_, _, _, _] H wn rfl rfl rfl rfl ?_; clear H; intro a H
                            refine s_buildSlice un33l14d ty37l14d [_, _, _, _] [_, _, _, _] H wn rfl rfl rfl rfl rfl (by intro i q h; match i, h with | 0, h => exact h | n + 1, h => simp at h) rfl rfl ?_; clear H; intro b73 a w hb73 H
                            refine s_append (Li := [_]) (Lo := Lo) (news := bkCells ⟨1, fr, n, false⟩) un33l14d ty37l14d rfl rfl H wn rfl rfl hrw rfl (H.hp.ocells 0 rfl rfl) rfl (by omega) (by omega) rfl ?_; clear H; intro v Lo a w hrwn H
                            obtain ⟨A, xs, hrw, hcat, heq⟩ := bstep _ hrwn hcat heq
                            have hal : A.length ≤ 2147483649 := by have := congrArg List.length heq; rw [List.length_append] at this; omega
                            refine s_assign H wn rfl rfl ?_; clear H; intro a H
                            refine wl_nil ?_
                            refine hK40 _ _ ?_; clear hK40
                            refine c_seq (fun _ hK42 => ?_)
                            refine c_seq (fun _ hK43 => ?_)
                            refine c_region ?_
                            refine s_move H wn rfl rfl ?_; clear H; intro a H
                            refine s_move H wn rfl rfl ?_; clear H; intro a H
                            refine s_cmp H wn rfl rfl rfl rfl ?_; clear H; intro a H
                            refine s_move H wn rfl rfl ?_; clear H; intro a H
                            refine s_move H (wg H rfl rfl h66) rfl rfl ?_; clear H; intro a H
                            refine s_not H (wg H rfl rfl h66) rfl rfl ?_; clear H; intro a H
                            refine s_pick_t H wn rfl h66 rfl rfl ?_; clear H; intro a H
                            refine wl_nil ?_
                            refine hK43 _ _ ?_; clear hK43
                            refine c_cond_f H rfl rfl ?_
                            refine c_skip ?_
                            refine hK42 _ _ ?_; clear hK42
                            refine c_seq (fun _ hK44 => ?_)
                            refine c_seq (fun _ hK45 => ?_)
                            refine c_region ?_
                            refine s_move H wn rfl rfl ?_; clear H; intro a H
                            refine s_move H wn rfl rfl ?_; clear H; intro a H
                            refine s_len un92l14d H wn rfl rfl ?_; clear H; intro a H
                            refine s_cmp H wn rfl rfl rfl rfl ?_; clear H; intro a H
                            refine wl_nil ?_
                            refine hK45 _ _ ?_; clear hK45
                            refine c_cond_t H rfl h21 ?_
                            refine c_seq (fun _ hK46 => ?_)
                            refine c_region ?_
                            refine s_assign H wn rfl rfl ?_; clear H; intro a H
                            refine wl_nil ?_
                            refine hK46 _ _ ?_; clear hK46
                            refine c_seq (fun _ hK47 => ?_)
                            refine c_seq (fun _ hK48 => ?_)
                            refine c_region ?_
                            refine s_move H wn rfl rfl ?_; clear H; intro a H
                            refine s_move H wn rfl rfl ?_; clear H; intro a H
                            refine s_index un92l14d ty3l14d _ H wn rfl rfl rfl (by first | assumption | omega) rfl ?_; clear H; intro a H
                            refine s_load ty3l14d H wn rfl (H.hp.gcell (by assumption)) rfl ?_; clear H; intro a H
                            refine s_cmp H wn rfl rfl rfl rfl ?_; clear H; intro a H
                            refine wl_nil ?_
                            refine hK48 _ _ ?_; clear hK48
                            refine c_cond H rfl ?_ ?_
                            · intro h96
                              try have p96 := of_decide_eq_true h96
                              first
                              | (exfalso; omega)
                              | (exact absurd h96 (by decide))
                              | skip
                                rw [if_pos p96] at heq
                                refine c_region ?_
                                refine s_assign H wn rfl rfl ?_; clear H; intro a H
                                refine wl_nil ?_
                                refine hK47 _ _ ?_; clear hK47
                                refine c_region ?_
                                refine s_move H wn rfl rfl ?_; clear H; intro a H
                                refine s_move H wn rfl rfl ?_; clear H; intro a H
                                refine s_move H wn rfl rfl ?_; clear H; intro a H
                                refine s_move H wn rfl rfl ?_; clear H; intro a H
                                refine s_add _ H wn rfl rfl rfl (by omega) (by omega) rfl ?_; clear H; intro a H
                                refine s_build sr37l14d [_, _, _, _] H wn rfl rfl rfl rfl ?_; clear H; intro a H
                                refine s_buildSlice un33l14d ty37l14d [_, _, _, _] [_, _, _, _] H wn rfl rfl rfl rfl rfl (by intro i q h; match i, h with | 0, h => exact h | n + 1, h => simp at h) rfl rfl ?_; clear H; intro b103 a w hb103 H
                                first
                                  | refine s_append (Li := [_]) (Lo := Lo) (news := bkCells ⟨_, n, n + 1, false⟩) un33l14d ty37l14d rfl rfl H wn rfl rfl hrw rfl (H.hp.ocells 0 rfl rfl) rfl (by omega) (by omega) rfl ?_
                                  | refine s_append (Li := [_, _]) (Lo := Lo) (news := bkCells ⟨_, n, n + 1, false⟩) un33l14d ty37l14d rfl rfl H wn rfl rfl hrw rfl (H.hp.ocells 0 rfl rfl) rfl (by omega) (by omega) rfl ?_
                                clear H; intro v Lo a w hrwn H
                                obtain ⟨A, xs, hrw, hcat, heq⟩ := bstep _ hrwn hcat heq
                                refine s_assign H wn rfl rfl ?_; clear H; intro a H
                                refine wl_nil ?_
                                refine hK44 _ _ ?_; clear hK44
                                refine c_region ?_
                                refine s_move H wn rfl rfl ?_; clear H; intro a H
                                refine s_add _ H wn rfl rfl rfl (by omega) (by omega) rfl ?_; clear H; intro a H
                                refine s_assign H wn rfl rfl ?_; clear H; intro a H
                                refine s_assign H wn rfl rfl ?_; clear H; intro a H
                                refine wl_nil ?_
                                refine hK9 _ _ ?_; clear hK9
                                refine c_region ?_
                                refine s_move H wn rfl rfl ?_; clear H; intro a H
                                refine s_add _ H wn rfl rfl rfl (by omega) (by omega) rfl ?_; clear H; intro a H
                                refine s_assign H wn rfl rfl ?_; clear H; intro a H
                                refine wl_nil ?_
                                refine loop_end ((n + 1, n + 1, false, A, v, xs, Lo)) (by exact (H.pickT (Pl := [_, _]) (Pl' := []) [] (by decide) rfl).sub ⟨rfl, rfl, rfl, rfl, rfl, trivial⟩) ?_ ?_
                                · try dsimp only
                                  first
                                  | exact ⟨by omega, by omega, hrw, hcat, heq⟩
                                  | exact ⟨by omega, by omega, hrw, hcat, by rw [restM_off (by omega)]; exact heq⟩
                                · first | omega | (dsimp only; omega)
                            · intro h96
                              try have p96 := of_decide_eq_false h96
                              first
                              | (exfalso; omega)
                              | (exact absurd h96 (by decide))
                              | skip
                                rw [if_neg p96] at heq
                                refine c_skip ?_
                                refine hK47 _ _ ?_; clear hK47
                                refine c_region ?_
                                refine s_move H wn rfl rfl ?_; clear H; intro a H
                                refine s_move H wn rfl rfl ?_; clear H; intro a H
                                refine s_move H wn rfl rfl ?_; clear H; intro a H
                                refine s_move H wn rfl rfl ?_; clear H; intro a H
                                refine s_add _ H wn rfl rfl rfl (by omega) (by omega) rfl ?_; clear H; intro a H
                                refine s_build sr37l14d [_, _, _, _] H wn rfl rfl rfl rfl ?_; clear H; intro a H
                                refine s_buildSlice un33l14d ty37l14d [_, _, _, _] [_, _, _, _] H wn rfl rfl rfl rfl rfl (by intro i q h; match i, h with | 0, h => exact h | n + 1, h => simp at h) rfl rfl ?_; clear H; intro b103 a w hb103 H
                                first
                                  | refine s_append (Li := [_]) (Lo := Lo) (news := bkCells ⟨_, n, n + 1, false⟩) un33l14d ty37l14d rfl rfl H wn rfl rfl hrw rfl (H.hp.ocells 0 rfl rfl) rfl (by omega) (by omega) rfl ?_
                                  | refine s_append (Li := [_, _]) (Lo := Lo) (news := bkCells ⟨_, n, n + 1, false⟩) un33l14d ty37l14d rfl rfl H wn rfl rfl hrw rfl (H.hp.ocells 0 rfl rfl) rfl (by omega) (by omega) rfl ?_
                                clear H; intro v Lo a w hrwn H
                                obtain ⟨A, xs, hrw, hcat, heq⟩ := bstep _ hrwn hcat heq
                                refine s_assign H wn rfl rfl ?_; clear H; intro a H
                                refine wl_nil ?_
                                refine hK44 _ _ ?_; clear hK44
                                refine c_region ?_
                                refine s_move H wn rfl rfl ?_; clear H; intro a H
                                refine s_add _ H wn rfl rfl rfl (by omega) (by omega) rfl ?_; clear H; intro a H
                                refine s_assign H wn rfl rfl ?_; clear H; intro a H
                                refine s_assign H wn rfl rfl ?_; clear H; intro a H
                                refine wl_nil ?_
                                refine hK9 _ _ ?_; clear hK9
                                refine c_region ?_
                                refine s_move H wn rfl rfl ?_; clear H; intro a H
                                refine s_add _ H wn rfl rfl rfl (by omega) (by omega) rfl ?_; clear H; intro a H
                                refine s_assign H wn rfl rfl ?_; clear H; intro a H
                                refine wl_nil ?_
                                refine loop_end ((n + 1, n + 1, false, A, v, xs, Lo)) (by exact (H.pickT (Pl := [_, _]) (Pl' := []) [] (by decide) rfl).sub ⟨rfl, rfl, rfl, rfl, rfl, trivial⟩) ?_ ?_
                                · try dsimp only
                                  first
                                  | exact ⟨by omega, by omega, hrw, hcat, heq⟩
                                  | exact ⟨by omega, by omega, hrw, hcat, by rw [restM_off (by omega)]; exact heq⟩
                                · first | omega | (dsimp only; omega)
                        · intro h68
                          try have p68 := of_decide_eq_false h68
                          first
                          | (exfalso; omega)
                          | (exact absurd h68 (by decide))
                          | skip
                            subst h68
                            rw [tailM_f (by omega)] at heq
                            refine c_skip ?_
                            refine hK40 _ _ ?_; clear hK40
                            refine c_seq (fun _ hK49 => ?_)
                            refine c_seq (fun _ hK50 => ?_)
                            refine c_region ?_
                            refine s_move H wn rfl rfl ?_; clear H; intro a H
                            refine s_move H wn rfl rfl ?_; clear H; intro a H
                            refine s_cmp H wn rfl rfl rfl rfl ?_; clear H; intro a H
                            refine s_move H wn rfl rfl ?_; clear H; intro a H
                            refine s_move H (wg H rfl rfl h66) rfl rfl ?_; clear H; intro a H
                            refine s_not H (wg H rfl rfl h66) rfl rfl ?_; clear H; intro a H
                            refine s_pick_t H wn rfl h66 rfl rfl ?_; clear H; intro a H
                            refine wl_nil ?_
                            refine hK50 _ _ ?_; clear hK50
                            refine c_cond_t H rfl rfl ?_
                            refine c_region ?_
                            refine s_move H wn rfl rfl ?_; clear H; intro a H
                            refine s_move H wn rfl rfl ?_; clear H; intro a H
                            refine s_move H wn rfl rfl ?_; clear H; intro a H
                            refine s_build sr37l14d [_, _, _, _] H wn rfl rfl rfl rfl ?_; clear H; intro a H
                            refine s_buildSlice un33l14d ty37l14d [_, _, _, _] [_, _, _, _] H wn rfl rfl rfl rfl rfl (by intro i q h; match i, h with | 0, h => exact h | n + 1, h => simp at h) rfl rfl ?_; clear H; intro b86 a w hb86 H
                            refine s_append (Li := [_]) (Lo := Lo) (news := bkCells ⟨4, fr, n, false⟩) un33l14d ty37l14d rfl rfl H wn rfl rfl hrw rfl (H.hp.ocells 0 rfl rfl) rfl (by omega) (by omega) rfl ?_; clear H; intro v Lo a w hrwn H
                            obtain ⟨A, xs, hrw, hcat, heq⟩ := bstep _ hrwn hcat heq
                            have hal : A.length ≤ 2147483649 := by have := congrArg List.length heq; rw [List.length_append] at this; omega
                            refine s_assign H wn rfl rfl ?_; clear H; intro a H
                            refine wl_nil ?_
                            refine hK49 _ _ ?_; clear hK49
                            refine c_seq (fun _ hK51 => ?_)
                            refine c_seq (fun _ hK52 => ?_)
                            refine c_region ?_
                            refine s_move H wn rfl rfl ?_; clear H; intro a H
                            refine s_move H wn rfl rfl ?_; clear H; intro a H
                            refine s_len un92l14d H wn rfl rfl ?_; clear H; intro a H
                            refine s_cmp H wn rfl rfl rfl rfl ?_; clear H; intro a H
                            refine wl_nil ?_
                            refine hK52 _ _ ?_; clear hK52
                            refine c_cond_t H rfl h21 ?_
                            refine c_seq (fun _ hK53 => ?_)
                            refine c_region ?_
                            refine s_assign H wn rfl rfl ?_; clear H; intro a H
                            refine wl_nil ?_
                            refine hK53 _ _ ?_; clear hK53
                            refine c_seq (fun _ hK54 => ?_)
                            refine c_seq (fun _ hK55 => ?_)
                            refine c_region ?_
                            refine s_move H wn rfl rfl ?_; clear H; intro a H
                            refine s_move H wn rfl rfl ?_; clear H; intro a H
                            refine s_index un92l14d ty3l14d _ H wn rfl rfl rfl (by first | assumption | omega) rfl ?_; clear H; intro a H
                            refine s_load ty3l14d H wn rfl (H.hp.gcell (by assumption)) rfl ?_; clear H; intro a H
                            refine s_cmp H wn rfl rfl rfl rfl ?_; clear H; intro a H
                            refine wl_nil ?_
                            refine hK55 _ _ ?_; clear hK55
                            refine c_cond H rfl ?_ ?_
                            · intro h96
                              try have p96 := of_decide_eq_true h96
                              first
                              | (exfalso; omega)
                              | (exact absurd h96 (by decide))
                              | skip
                                rw [if_pos p96] at heq
                                refine c_region ?_
                                refine s_assign H wn rfl rfl ?_; clear H; intro a H
                                refine wl_nil ?_
                                refine hK54 _ _ ?_; clear hK54
                                refine c_region ?_
                                refine s_move H wn rfl rfl ?_; clear H; intro a H
                                refine s_move H wn rfl rfl ?_; clear H; intro a H
                                refine s_move H wn rfl rfl ?_; clear H; intro a H
                                refine s_move H wn rfl rfl ?_; clear H; intro a H
                                refine s_add _ H wn rfl rfl rfl (by omega) (by omega) rfl ?_; clear H; intro a H
                                refine s_build sr37l14d [_, _, _, _] H wn rfl rfl rfl rfl ?_; clear H; intro a H
                                refine s_buildSlice un33l14d ty37l14d [_, _, _, _] [_, _, _, _] H wn rfl rfl rfl rfl rfl (by intro i q h; match i, h with | 0, h => exact h | n + 1, h => simp at h) rfl rfl ?_; clear H; intro b103 a w hb103 H
                                first
                                  | refine s_append (Li := [_]) (Lo := Lo) (news := bkCells ⟨_, n, n + 1, false⟩) un33l14d ty37l14d rfl rfl H wn rfl rfl hrw rfl (H.hp.ocells 0 rfl rfl) rfl (by omega) (by omega) rfl ?_
                                  | refine s_append (Li := [_, _]) (Lo := Lo) (news := bkCells ⟨_, n, n + 1, false⟩) un33l14d ty37l14d rfl rfl H wn rfl rfl hrw rfl (H.hp.ocells 0 rfl rfl) rfl (by omega) (by omega) rfl ?_
                                clear H; intro v Lo a w hrwn H
                                obtain ⟨A, xs, hrw, hcat, heq⟩ := bstep _ hrwn hcat heq
                                refine s_assign H wn rfl rfl ?_; clear H; intro a H
                                refine wl_nil ?_
                                refine hK51 _ _ ?_; clear hK51
                                refine c_region ?_
                                refine s_move H wn rfl rfl ?_; clear H; intro a H
                                refine s_add _ H wn rfl rfl rfl (by omega) (by omega) rfl ?_; clear H; intro a H
                                refine s_assign H wn rfl rfl ?_; clear H; intro a H
                                refine s_assign H wn rfl rfl ?_; clear H; intro a H
                                refine wl_nil ?_
                                refine hK9 _ _ ?_; clear hK9
                                refine c_region ?_
                                refine s_move H wn rfl rfl ?_; clear H; intro a H
                                refine s_add _ H wn rfl rfl rfl (by omega) (by omega) rfl ?_; clear H; intro a H
                                refine s_assign H wn rfl rfl ?_; clear H; intro a H
                                refine wl_nil ?_
                                refine loop_end ((n + 1, n + 1, false, A, v, xs, Lo)) (by exact (H.pickT (Pl := [_, _]) (Pl' := []) [] (by decide) rfl).sub ⟨rfl, rfl, rfl, rfl, rfl, trivial⟩) ?_ ?_
                                · try dsimp only
                                  first
                                  | exact ⟨by omega, by omega, hrw, hcat, heq⟩
                                  | exact ⟨by omega, by omega, hrw, hcat, by rw [restM_off (by omega)]; exact heq⟩
                                · first | omega | (dsimp only; omega)
                            · intro h96
                              try have p96 := of_decide_eq_false h96
                              first
                              | (exfalso; omega)
                              | (exact absurd h96 (by decide))
                              | skip
                                rw [if_neg p96] at heq
                                refine c_skip ?_
                                refine hK54 _ _ ?_; clear hK54
                                refine c_region ?_
                                refine s_move H wn rfl rfl ?_; clear H; intro a H
                                refine s_move H wn rfl rfl ?_; clear H; intro a H
                                refine s_move H wn rfl rfl ?_; clear H; intro a H
                                refine s_move H wn rfl rfl ?_; clear H; intro a H
                                refine s_add _ H wn rfl rfl rfl (by omega) (by omega) rfl ?_; clear H; intro a H
                                refine s_build sr37l14d [_, _, _, _] H wn rfl rfl rfl rfl ?_; clear H; intro a H
                                refine s_buildSlice un33l14d ty37l14d [_, _, _, _] [_, _, _, _] H wn rfl rfl rfl rfl rfl (by intro i q h; match i, h with | 0, h => exact h | n + 1, h => simp at h) rfl rfl ?_; clear H; intro b103 a w hb103 H
                                first
                                  | refine s_append (Li := [_]) (Lo := Lo) (news := bkCells ⟨_, n, n + 1, false⟩) un33l14d ty37l14d rfl rfl H wn rfl rfl hrw rfl (H.hp.ocells 0 rfl rfl) rfl (by omega) (by omega) rfl ?_
                                  | refine s_append (Li := [_, _]) (Lo := Lo) (news := bkCells ⟨_, n, n + 1, false⟩) un33l14d ty37l14d rfl rfl H wn rfl rfl hrw rfl (H.hp.ocells 0 rfl rfl) rfl (by omega) (by omega) rfl ?_
                                clear H; intro v Lo a w hrwn H
                                obtain ⟨A, xs, hrw, hcat, heq⟩ := bstep _ hrwn hcat heq
                                refine s_assign H wn rfl rfl ?_; clear H; intro a H
                                refine wl_nil ?_
                                refine hK51 _ _ ?_; clear hK51
                                refine c_region ?_
                                refine s_move H wn rfl rfl ?_; clear H; intro a H
                                refine s_add _ H wn rfl rfl rfl (by omega) (by omega) rfl ?_; clear H; intro a H
                                refine s_assign H wn rfl rfl ?_; clear H; intro a H
                                refine s_assign H wn rfl rfl ?_; clear H; intro a H
                                refine wl_nil ?_
                                refine hK9 _ _ ?_; clear hK9
                                refine c_region ?_
                                refine s_move H wn rfl rfl ?_; clear H; intro a H
                                refine s_add _ H wn rfl rfl rfl (by omega) (by omega) rfl ?_; clear H; intro a H
                                refine s_assign H wn rfl rfl ?_; clear H; intro a H
                                refine wl_nil ?_
                                refine loop_end ((n + 1, n + 1, false, A, v, xs, Lo)) (by exact (H.pickT (Pl := [_, _]) (Pl' := []) [] (by decide) rfl).sub ⟨rfl, rfl, rfl, rfl, rfl, trivial⟩) ?_ ?_
                                · try dsimp only
                                  first
                                  | exact ⟨by omega, by omega, hrw, hcat, heq⟩
                                  | exact ⟨by omega, by omega, hrw, hcat, by rw [restM_off (by omega)]; exact heq⟩
                                · first | omega | (dsimp only; omega)
                    · intro h66
                      try have p66 := of_decide_eq_false h66
                      first
                      | (exfalso; omega)
                      | (exact absurd h66 (by decide))
                      | skip
                        rw [tailM_no (by omega)] at heq
                        refine s_skip H rfl rfl h66 rfl ?_; clear H; intro a H
                        refine s_pick_f H wn rfl h66 rfl rfl ?_; clear H; intro a H
                        refine wl_nil ?_
                        refine hK41 _ _ ?_; clear hK41
                        refine c_cond_f H rfl rfl ?_
                        refine c_skip ?_
                        refine hK40 _ _ ?_; clear hK40
                        refine c_seq (fun _ hK56 => ?_)
                        refine c_seq (fun _ hK57 => ?_)
                        refine c_region ?_
                        refine s_move H wn rfl rfl ?_; clear H; intro a H
                        refine s_move H wn rfl rfl ?_; clear H; intro a H
                        refine s_cmp H wn rfl rfl rfl rfl ?_; clear H; intro a H
                        refine s_move H wn rfl rfl ?_; clear H; intro a H
                        refine s_skip H rfl rfl h66 rfl ?_; clear H; intro a H
                        refine s_skip H rfl rfl h66 rfl ?_; clear H; intro a H
                        refine s_pick_f H wn rfl h66 rfl rfl ?_; clear H; intro a H
                        refine wl_nil ?_
                        refine hK57 _ _ ?_; clear hK57
                        refine c_cond_f H rfl rfl ?_
                        refine c_skip ?_
                        refine hK56 _ _ ?_; clear hK56
                        refine c_seq (fun _ hK58 => ?_)
                        refine c_seq (fun _ hK59 => ?_)
                        refine c_region ?_
                        refine s_move H wn rfl rfl ?_; clear H; intro a H
                        refine s_move H wn rfl rfl ?_; clear H; intro a H
                        refine s_len un92l14d H wn rfl rfl ?_; clear H; intro a H
                        refine s_cmp H wn rfl rfl rfl rfl ?_; clear H; intro a H
                        refine wl_nil ?_
                        refine hK59 _ _ ?_; clear hK59
                        refine c_cond_t H rfl h21 ?_
                        refine c_seq (fun _ hK60 => ?_)
                        refine c_region ?_
                        refine s_assign H wn rfl rfl ?_; clear H; intro a H
                        refine wl_nil ?_
                        refine hK60 _ _ ?_; clear hK60
                        refine c_seq (fun _ hK61 => ?_)
                        refine c_seq (fun _ hK62 => ?_)
                        refine c_region ?_
                        refine s_move H wn rfl rfl ?_; clear H; intro a H
                        refine s_move H wn rfl rfl ?_; clear H; intro a H
                        refine s_index un92l14d ty3l14d _ H wn rfl rfl rfl (by first | assumption | omega) rfl ?_; clear H; intro a H
                        refine s_load ty3l14d H wn rfl (H.hp.gcell (by assumption)) rfl ?_; clear H; intro a H
                        refine s_cmp H wn rfl rfl rfl rfl ?_; clear H; intro a H
                        refine wl_nil ?_
                        refine hK62 _ _ ?_; clear hK62
                        refine c_cond H rfl ?_ ?_
                        · intro h96
                          try have p96 := of_decide_eq_true h96
                          first
                          | (exfalso; omega)
                          | (exact absurd h96 (by decide))
                          | skip
                            rw [if_pos p96] at heq
                            refine c_region ?_
                            refine s_assign H wn rfl rfl ?_; clear H; intro a H
                            refine wl_nil ?_
                            refine hK61 _ _ ?_; clear hK61
                            refine c_region ?_
                            refine s_move H wn rfl rfl ?_; clear H; intro a H
                            refine s_move H wn rfl rfl ?_; clear H; intro a H
                            refine s_move H wn rfl rfl ?_; clear H; intro a H
                            refine s_move H wn rfl rfl ?_; clear H; intro a H
                            refine s_add _ H wn rfl rfl rfl (by omega) (by omega) rfl ?_; clear H; intro a H
                            refine s_build sr37l14d [_, _, _, _] H wn rfl rfl rfl rfl ?_; clear H; intro a H
                            refine s_buildSlice un33l14d ty37l14d [_, _, _, _] [_, _, _, _] H wn rfl rfl rfl rfl rfl (by intro i q h; match i, h with | 0, h => exact h | n + 1, h => simp at h) rfl rfl ?_; clear H; intro b103 a w hb103 H
                            first
                              | refine s_append (Li := [_]) (Lo := Lo) (news := bkCells ⟨_, n, n + 1, false⟩) un33l14d ty37l14d rfl rfl H wn rfl rfl hrw rfl (H.hp.ocells 0 rfl rfl) rfl (by omega) (by omega) rfl ?_
                              | refine s_append (Li := [_, _]) (Lo := Lo) (news := bkCells ⟨_, n, n + 1, false⟩) un33l14d ty37l14d rfl rfl H wn rfl rfl hrw rfl (H.hp.ocells 0 rfl rfl) rfl (by omega) (by omega) rfl ?_
                            clear H; intro v Lo a w hrwn H
                            obtain ⟨A, xs, hrw, hcat, heq⟩ := bstep _ hrwn hcat heq
                            refine s_assign H wn rfl rfl ?_; clear H; intro a H
                            refine wl_nil ?_
                            refine hK58 _ _ ?_; clear hK58
                            refine c_region ?_
                            refine s_move H wn rfl rfl ?_; clear H; intro a H
                            refine s_add _ H wn rfl rfl rfl (by omega) (by omega) rfl ?_; clear H; intro a H
                            refine s_assign H wn rfl rfl ?_; clear H; intro a H
                            refine s_assign H wn rfl rfl ?_; clear H; intro a H
                            refine wl_nil ?_
                            refine hK9 _ _ ?_; clear hK9
                            refine c_region ?_
                            refine s_move H wn rfl rfl ?_; clear H; intro a H
                            refine s_add _ H wn rfl rfl rfl (by omega) (by omega) rfl ?_; clear H; intro a H
                            refine s_assign H wn rfl rfl ?_; clear H; intro a H
                            refine wl_nil ?_
                            refine loop_end ((n + 1, n + 1, false, A, v, xs, Lo)) (by exact (H.pickT (Pl := [_]) (Pl' := []) [] (by decide) rfl).sub ⟨rfl, rfl, rfl, rfl, rfl, trivial⟩) ?_ ?_
                            · try dsimp only
                              first
                              | exact ⟨by omega, by omega, hrw, hcat, heq⟩
                              | exact ⟨by omega, by omega, hrw, hcat, by rw [restM_off (by omega)]; exact heq⟩
                            · first | omega | (dsimp only; omega)
                        · intro h96
                          try have p96 := of_decide_eq_false h96
                          first
                          | (exfalso; omega)
                          | (exact absurd h96 (by decide))
                          | skip
                            rw [if_neg p96] at heq
                            refine c_skip ?_
                            refine hK61 _ _ ?_; clear hK61
                            refine c_region ?_
                            refine s_move H wn rfl rfl ?_; clear H; intro a H
                            refine s_move H wn rfl rfl ?_; clear H; intro a H
                            refine s_move H wn rfl rfl ?_; clear H; intro a H
                            refine s_move H wn rfl rfl ?_; clear H; intro a H
                            refine s_add _ H wn rfl rfl rfl (by omega) (by omega) rfl ?_; clear H; intro a H
                            refine s_build sr37l14d [_, _, _, _] H wn rfl rfl rfl rfl ?_; clear H; intro a H
                            refine s_buildSlice un33l14d ty37l14d [_, _, _, _] [_, _, _, _] H wn rfl rfl rfl rfl rfl (by intro i q h; match i, h with | 0, h => exact h | n + 1, h => simp at h) rfl rfl ?_; clear H; intro b103 a w hb103 H
                            first
                              | refine s_append (Li := [_]) (Lo := Lo) (news := bkCells ⟨_, n, n + 1, false⟩) un33l14d ty37l14d rfl rfl H wn rfl rfl hrw rfl (H.hp.ocells 0 rfl rfl) rfl (by omega) (by omega) rfl ?_
                              | refine s_append (Li := [_, _]) (Lo := Lo) (news := bkCells ⟨_, n, n + 1, false⟩) un33l14d ty37l14d rfl rfl H wn rfl rfl hrw rfl (H.hp.ocells 0 rfl rfl) rfl (by omega) (by omega) rfl ?_
                            clear H; intro v Lo a w hrwn H
                            obtain ⟨A, xs, hrw, hcat, heq⟩ := bstep _ hrwn hcat heq
                            refine s_assign H wn rfl rfl ?_; clear H; intro a H
                            refine wl_nil ?_
                            refine hK58 _ _ ?_; clear hK58
                            refine c_region ?_
                            refine s_move H wn rfl rfl ?_; clear H; intro a H
                            refine s_add _ H wn rfl rfl rfl (by omega) (by omega) rfl ?_; clear H; intro a H
                            refine s_assign H wn rfl rfl ?_; clear H; intro a H
                            refine s_assign H wn rfl rfl ?_; clear H; intro a H
                            refine wl_nil ?_
                            refine hK9 _ _ ?_; clear hK9
                            refine c_region ?_
                            refine s_move H wn rfl rfl ?_; clear H; intro a H
                            refine s_add _ H wn rfl rfl rfl (by omega) (by omega) rfl ?_; clear H; intro a H
                            refine s_assign H wn rfl rfl ?_; clear H; intro a H
                            refine wl_nil ?_
                            refine loop_end ((n + 1, n + 1, false, A, v, xs, Lo)) (by exact (H.pickT (Pl := [_]) (Pl' := []) [] (by decide) rfl).sub ⟨rfl, rfl, rfl, rfl, rfl, trivial⟩) ?_ ?_
                            · try dsimp only
                              first
                              | exact ⟨by omega, by omega, hrw, hcat, heq⟩
                              | exact ⟨by omega, by omega, hrw, hcat, by rw [restM_off (by omega)]; exact heq⟩
                            · first | omega | (dsimp only; omega)
        · intro h21
          try have p21 := of_decide_eq_false h21
          first
          | (exfalso; omega)
          | (exact absurd h21 (by decide))
          | skip
            have hn : n = ks.length := by omega
            rw [restM_end hn] at heq
            refine s_skip H rfl rfl h21 rfl ?_; clear H; intro a H
            refine s_skip H rfl rfl h21 rfl ?_; clear H; intro a H
            refine s_skip H rfl rfl h21 rfl ?_; clear H; intro a H
            refine s_skip H rfl rfl h21 rfl ?_; clear H; intro a H
            refine s_skip H rfl rfl h21 rfl ?_; clear H; intro a H
            refine s_pick_f H wn rfl h21 rfl rfl ?_; clear H; intro a H
            refine wl_nil ?_
            refine hK11 _ _ ?_; clear hK11
            refine c_cond_f H rfl rfl ?_
            refine c_skip ?_
            refine hK10 _ _ ?_; clear hK10
            refine c_seq (fun _ hK63 => ?_)
            refine c_seq (fun _ hK64 => ?_)
            refine c_region ?_
            refine s_move H wn rfl rfl ?_; clear H; intro a H
            refine s_move H wn rfl rfl ?_; clear H; intro a H
            refine s_len un92l14d H wn rfl rfl ?_; clear H; intro a H
            refine s_cmp H wn rfl rfl rfl rfl ?_; clear H; intro a H
            refine s_move H wn rfl rfl ?_; clear H; intro a H
            refine s_skip H rfl rfl h21 rfl ?_; clear H; intro a H
            refine s_skip H rfl rfl h21 rfl ?_; clear H; intro a H
            refine s_skip H rfl rfl h21 rfl ?_; clear H; intro a H
            refine s_skip H rfl rfl h21 rfl ?_; clear H; intro a H
            refine s_skip H rfl rfl h21 rfl ?_; clear H; intro a H
            refine s_pick_f H wn rfl h21 rfl rfl ?_; clear H; intro a H
            refine s_move H wn rfl rfl ?_; clear H; intro a H
            refine s_skip H rfl rfl rfl rfl ?_; clear H; intro a H
            refine s_skip H rfl rfl rfl rfl ?_; clear H; intro a H
            refine s_skip H rfl rfl rfl rfl ?_; clear H; intro a H
            refine s_skip H rfl rfl rfl rfl ?_; clear H; intro a H
            refine s_skip H rfl rfl rfl rfl ?_; clear H; intro a H
            refine s_pick_f H wn rfl rfl rfl rfl ?_; clear H; intro a H
            refine wl_nil ?_
            refine hK64 _ _ ?_; clear hK64
            refine c_cond_f H rfl rfl ?_
            refine c_skip ?_
            refine hK63 _ _ ?_; clear hK63
            refine c_seq (fun _ hK65 => ?_)
            refine c_seq (fun _ hK66 => ?_)
            refine c_region ?_
            refine s_move H wn rfl rfl ?_; clear H; intro a H
            refine s_move H wn rfl rfl ?_; clear H; intro a H
            refine s_cmp H wn rfl rfl rfl rfl ?_; clear H; intro a H
            refine s_move H wn rfl rfl ?_; clear H; intro a H
            refine s_split H 66 rfl ?_ ?_
            · intro h66
              try have p66 := of_decide_eq_true h66
              first
              | (exfalso; omega)
              | (exact absurd h66 (by decide))
              | skip
                refine s_move H (wg H rfl rfl h66) rfl rfl ?_; clear H; intro a H
                refine s_pick_t H wn rfl h66 rfl rfl ?_; clear H; intro a H
                refine wl_nil ?_
                refine hK66 _ _ ?_; clear hK66
                refine c_cond H rfl ?_ ?_
                · intro h68
                  try have p68 := of_decide_eq_true h68
                  first
                  | (exfalso; omega)
                  | (exact absurd h68 (by decide))
                  | skip
                    subst h68
                    rw [tailM_t (by omega)] at heq
                    refine c_region ?_
                    refine s_move H wn rfl rfl ?_; clear H; intro a H
                    refine s_move H wn rfl rfl ?_; clear H; intro a H
                    refine s_move H wn rfl rfl ?_; clear H; intro a H
                    refine s_build sr37l14d [_, _, _, _] H wn rfl rfl rfl rfl ?_; clear H; intro a H
                    refine s_buildSlice un33l14d ty37l14d [_, _, _, _] [_, _, _, _] H wn rfl rfl rfl rfl rfl (by intro i q h; match i, h with | 0, h => exact h | n + 1, h => simp at h) rfl rfl ?_; clear H; intro b73 a w hb73 H
                    refine s_append (Li := [_]) (Lo := Lo) (news := bkCells ⟨1, fr, n, false⟩) un33l14d ty37l14d rfl rfl H wn rfl rfl hrw rfl (H.hp.ocells 0 rfl rfl) rfl (by omega) (by omega) rfl ?_; clear H; intro v Lo a w hrwn H
                    obtain ⟨A, xs, hrw, hcat, heq⟩ := bstep _ hrwn hcat heq
                    have hal : A.length ≤ 2147483649 := by have := congrArg List.length heq; rw [List.length_append] at this; omega
                    refine s_assign H wn rfl rfl ?_; clear H; intro a H
                    refine wl_nil ?_
                    refine hK65 _ _ ?_; clear hK65
                    refine c_seq (fun _ hK67 => ?_)
                    refine c_seq (fun _ hK68 => ?_)
                    refine c_region ?_
                    refine s_move H wn rfl rfl ?_; clear H; intro a H
                    refine s_move H wn rfl rfl ?_; clear H; intro a H
                    refine s_cmp H wn rfl rfl rfl rfl ?_; clear H; intro a H
                    refine s_move H wn rfl rfl ?_; clear H; intro a H
                    refine s_move H (wg H rfl rfl h66) rfl rfl ?_; clear H; intro a H
                    refine s_not H (wg H rfl rfl h66) rfl rfl ?_; clear H; intro a H
                    refine s_pick_t H wn rfl h66 rfl rfl ?_; clear H; intro a H
                    refine wl_nil ?_
                    refine hK68 _ _ ?_; clear hK68
                    refine c_cond_f H rfl rfl ?_
                    refine c_skip ?_
                    refine hK67 _ _ ?_; clear hK67
                    refine c_seq (fun _ hK69 => ?_)
                    refine c_seq (fun _ hK70 => ?_)
                    refine c_region ?_
                    refine s_move H wn rfl rfl ?_; clear H; intro a H
                    refine s_move H wn rfl rfl ?_; clear H; intro a H
                    refine s_len un92l14d H wn rfl rfl ?_; clear H; intro a H
                    refine s_cmp H wn rfl rfl rfl rfl ?_; clear H; intro a H
                    refine wl_nil ?_
                    refine hK70 _ _ ?_; clear hK70
                    refine c_cond_f H rfl h21 ?_
                    refine c_skip ?_
                    refine hK69 _ _ ?_; clear hK69
                    refine c_region ?_
                    refine s_move H wn rfl rfl ?_; clear H; intro a H
                    refine s_add _ H wn rfl rfl rfl (by omega) (by omega) rfl ?_; clear H; intro a H
                    refine s_assign H wn rfl rfl ?_; clear H; intro a H
                    refine s_assign H wn rfl rfl ?_; clear H; intro a H
                    refine wl_nil ?_
                    refine hK9 _ _ ?_; clear hK9
                    refine c_region ?_
                    refine s_move H wn rfl rfl ?_; clear H; intro a H
                    refine s_add _ H wn rfl rfl rfl (by omega) (by omega) rfl ?_; clear H; intro a H
                    refine s_assign H wn rfl rfl ?_; clear H; intro a H
                    refine wl_nil ?_
                    refine loop_end ((n + 1, n + 1, false, A, v, xs, Lo)) (by exact (H.pickT (Pl := [_]) (Pl' := []) [] (by decide) rfl).sub ⟨rfl, rfl, rfl, rfl, rfl, trivial⟩) ?_ ?_
                    · try dsimp only
                      first
                      | exact ⟨by omega, by omega, hrw, hcat, heq⟩
                      | exact ⟨by omega, by omega, hrw, hcat, by rw [restM_off (by omega)]; exact heq⟩
                    · first | omega | (dsimp only; omega)
                · intro h68
                  try have p68 := of_decide_eq_false h68
                  first
                  | (exfalso; omega)
                  | (exact absurd h68 (by decide))
                  | skip
                    subst h68
                    rw [tailM_f (by omega)] at heq
                    refine c_skip ?_
                    refine hK65 _ _ ?_; clear hK65
                    refine c_seq (fun _ hK71 => ?_)
                    refine c_seq (fun _ hK72 => ?_)
                    refine c_region ?_
                    refine s_move H wn rfl rfl ?_; clear H; intro a H
                    refine s_move H wn rfl rfl ?_; clear H; intro a H
                    refine s_cmp H wn rfl rfl rfl rfl ?_; clear H; intro a H
                    refine s_move H wn rfl rfl ?_; clear H; intro a H
                    refine s_move H (wg H rfl rfl h66) rfl rfl ?_; clear H; intro a H
                    refine s_not H (wg H rfl rfl h66) rfl rfl ?_; clear H; intro a H
                    refine s_pick_t H wn rfl h66 rfl rfl ?_; clear H; intro a H
                    refine wl_nil ?_
                    refine hK72 _ _ ?_; clear hK72
                    refine c_cond_t H rfl rfl ?_
                    refine c_region ?_
                    refine s_move H wn rfl rfl ?_; clear H; intro a H
                    refine s_move H wn rfl rfl ?_; clear H; intro a H
                    refine s_move H wn rfl rfl ?_; clear H; intro a H
                    refine s_build sr37l14d [_, _, _, _] H wn rfl rfl rfl rfl ?_; clear H; intro a H
                    refine s_buildSlice un33l14d ty37l14d [_, _, _, _] [_, _, _, _] H wn rfl rfl rfl rfl rfl (by intro i q h; match i, h with | 0, h => exact h | n + 1, h => simp at h) rfl rfl ?_; clear H; intro b86 a w hb86 H
                    refine s_append (Li := [_]) (Lo := Lo) (news := bkCells ⟨4, fr, n, false⟩) un33l14d ty37l14d rfl rfl H wn rfl rfl hrw rfl (H.hp.ocells 0 rfl rfl) rfl (by omega) (by omega) rfl ?_; clear H; intro v Lo a w hrwn H
                    obtain ⟨A, xs, hrw, hcat, heq⟩ := bstep _ hrwn hcat heq
                    have hal : A.length ≤ 2147483649 := by have := congrArg List.length heq; rw [List.length_append] at this; omega
                    refine s_assign H wn rfl rfl ?_; clear H; intro a H
                    refine wl_nil ?_
                    refine hK71 _ _ ?_; clear hK71
                    refine c_seq (fun _ hK73 => ?_)
                    refine c_seq (fun _ hK74 => ?_)
                    refine c_region ?_
                    refine s_move H wn rfl rfl ?_; clear H; intro a H
                    refine s_move H wn rfl rfl ?_; clear H; intro a H
                    refine s_len un92l14d H wn rfl rfl ?_; clear H; intro a H
                    refine s_cmp H wn rfl rfl rfl rfl ?_; clear H; intro a H
                    refine wl_nil ?_
                    refine hK74 _ _ ?_; clear hK74
                    refine c_cond_f H rfl h21 ?_
                    refine c_skip ?_
                    refine hK73 _ _ ?_; clear hK73
                    refine c_region ?_
                    refine s_move H wn rfl rfl ?_; clear H; intro a H
                    refine s_add _ H wn rfl rfl rfl (by omega) (by omega) rfl ?_; clear H; intro a H
                    refine s_assign H wn rfl rfl ?_; clear H; intro a H
                    refine s_assign H wn rfl rfl ?_; clear H; intro a H
                    refine wl_nil ?_
                    refine hK9 _ _ ?_; clear hK9
                    refine c_region ?_
                    refine s_move H wn rfl rfl ?_; clear H; intro a H
                    refine s_add _ H wn rfl rfl rfl (by omega) (by omega) rfl ?_; clear H; intro a H
                    refine s_assign H wn rfl rfl ?_; clear H; intro a H
                    refine wl_nil ?_
                    refine loop_end ((n + 1, n + 1, false, A, v, xs, Lo)) (by exact (H.pickT (Pl := [_]) (Pl' := []) [] (by decide) rfl).sub ⟨rfl, rfl, rfl, rfl, rfl, trivial⟩) ?_ ?_
                    · try dsimp only
                      first
                      | exact ⟨by omega, by omega, hrw, hcat, heq⟩
                      | exact ⟨by omega, by omega, hrw, hcat, by rw [restM_off (by omega)]; exact heq⟩
                    · first | omega | (dsimp only; omega)
            · intro h66
              try have p66 := of_decide_eq_false h66
              first
              | (exfalso; omega)
              | (exact absurd h66 (by decide))
              | skip
                rw [tailM_no (by omega)] at heq
                refine s_skip H rfl rfl h66 rfl ?_; clear H; intro a H
                refine s_pick_f H wn rfl h66 rfl rfl ?_; clear H; intro a H
                refine wl_nil ?_
                refine hK66 _ _ ?_; clear hK66
                refine c_cond_f H rfl rfl ?_
                refine c_skip ?_
                refine hK65 _ _ ?_; clear hK65
                refine c_seq (fun _ hK75 => ?_)
                refine c_seq (fun _ hK76 => ?_)
                refine c_region ?_
                refine s_move H wn rfl rfl ?_; clear H; intro a H
                refine s_move H wn rfl rfl ?_; clear H; intro a H
                refine s_cmp H wn rfl rfl rfl rfl ?_; clear H; intro a H
                refine s_move H wn rfl rfl ?_; clear H; intro a H
                refine s_skip H rfl rfl h66 rfl ?_; clear H; intro a H
                refine s_skip H rfl rfl h66 rfl ?_; clear H; intro a H
                refine s_pick_f H wn rfl h66 rfl rfl ?_; clear H; intro a H
                refine wl_nil ?_
                refine hK76 _ _ ?_; clear hK76
                refine c_cond_f H rfl rfl ?_
                refine c_skip ?_
                refine hK75 _ _ ?_; clear hK75
                refine c_seq (fun _ hK77 => ?_)
                refine c_seq (fun _ hK78 => ?_)
                refine c_region ?_
                refine s_move H wn rfl rfl ?_; clear H; intro a H
                refine s_move H wn rfl rfl ?_; clear H; intro a H
                refine s_len un92l14d H wn rfl rfl ?_; clear H; intro a H
                refine s_cmp H wn rfl rfl rfl rfl ?_; clear H; intro a H
                refine wl_nil ?_
                refine hK78 _ _ ?_; clear hK78
                refine c_cond_f H rfl h21 ?_
                refine c_skip ?_
                refine hK77 _ _ ?_; clear hK77
                refine c_region ?_
                refine s_move H wn rfl rfl ?_; clear H; intro a H
                refine s_add _ H wn rfl rfl rfl (by omega) (by omega) rfl ?_; clear H; intro a H
                refine s_assign H wn rfl rfl ?_; clear H; intro a H
                refine s_assign H wn rfl rfl ?_; clear H; intro a H
                refine wl_nil ?_
                refine hK9 _ _ ?_; clear hK9
                refine c_region ?_
                refine s_move H wn rfl rfl ?_; clear H; intro a H
                refine s_add _ H wn rfl rfl rfl (by omega) (by omega) rfl ?_; clear H; intro a H
                refine s_assign H wn rfl rfl ?_; clear H; intro a H
                refine wl_nil ?_
                refine loop_end ((n + 1, n + 1, false, A, v, xs, Lo)) (by exact (H).sub ⟨rfl, rfl, rfl, rfl, rfl, trivial⟩) ?_ ?_
                · try dsimp only
                  first
                  | exact ⟨by omega, by omega, hrw, hcat, heq⟩
                  | exact ⟨by omega, by omega, hrw, hcat, by rw [restM_off (by omega)]; exact heq⟩
                · first | omega | (dsimp only; omega)
    · intro h14
      try have p14 := of_decide_eq_false h14
      first
      | (exfalso; omega)
      | (exact absurd h14 (by decide))
      | skip
        refine c_exit ?_
        refine hK5 _ _ ?_; clear hK5
        refine c_seq (fun _ hK79 => ?_)
        obtain ⟨G', hm, hrep, H⟩ := H.giveRow (Li := []) hrw (rows := A.map bkDat) (by simp) hcat
        rw [restM_off (by omega), List.append_nil] at heq
        rw [heq] at hrep
        refine c_region ?_
        refine s_move H wn rfl rfl ?_; clear H; intro a H
        refine s_assign H wn rfl rfl ?_; clear H; intro a H
        refine wl_nil ?_
        refine hK79 _ _ ?_; clear hK79
        refine c_ret ?_
        refine (leave1 H Try.results14 (.cons (rv_tmp H rfl) .nil) ?_).1
        exact H.hp.ret hrep
end Go.Proofs.Ytbfdhlakbdadhaa
