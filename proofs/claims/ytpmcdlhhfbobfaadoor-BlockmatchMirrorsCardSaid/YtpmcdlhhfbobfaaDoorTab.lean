/-
  Package obeluslaw31: table; what matchings are.
-/
import Derived.Test.YtpmcdlhhfbobfaaDoorGr
import Derived.Test.YtpmcdlhhfbobfaaDoorMk
import Derived.Test.YtpmcdlhhfbobfaaDoorUt
namespace Go.Proofs.YtpmcdlhhfbobfaaDoor
open Go.RowKit
theorem un32tab : Tryd.prog.underlying 32 = some (.slice 3) := by kernel_rfl
theorem ty3tab : Ty Tryd.prog 3 1 8 [.int .i64 0] false := ⟨by kernel_rfl, by kernel_rfl⟩
theorem un22tab : Tryd.prog.underlying 22 = some (.slice 53) := by kernel_rfl
theorem ty53tab : Ty Tryd.prog 53 1 2 [.int .u16 0] false := ⟨by kernel_rfl, by kernel_rfl⟩
theorem un3tab : Tryd.prog.underlying 3 = some (.int .i64) := by kernel_rfl
theorem un53tab : Tryd.prog.underlying 53 = some (.int .u16) := by kernel_rfl
theorem un23tab : Tryd.prog.underlying 23 = some (.slice 32) := by kernel_rfl
theorem ty32tab : Ty Tryd.prog 32 1 24 [.slice none 0 0] false := ⟨by kernel_rfl, by kernel_rfl⟩
def u16Dat (z : Int) : List Dat := [.lf (.int .u16 z)]
theorem u16_of {G : GH} {s : Int} {cs : List Value} (h : RepRow G (u16Dat s) cs) : cs = [.int .u16 s] := by
  simp only [u16Dat, RepRow, RepV] at h
  obtain ⟨v1, _, rfl, ⟨rfl, -⟩, rfl⟩ := h
  rfl
theorem u16_at {G : GH} {r : List Int} {A : Option Addr} {n c k : Nat} (hv : RepV G (.sl 1 (r.map u16Dat)) (.slice A n c)) (hk : k < r.length) : ∃ b o, A = some ⟨b, o, none⟩ ∧ gcell G b (o + k * 1) = some (.int .u16 r[k]) := by
  obtain ⟨A', c', he, _, _, hg⟩ := hv.slice
  injection he with e1 e2 e3
  subst e1; obtain ⟨b, o, cs, h1, h2, h3, h4⟩ := hg k (u16Dat r[k]) (by simp [hk]); obtain rfl := u16_of h4; exact ⟨b, o, h1, h3 0 _ rfl⟩
/-- The number at a place. -/
def celS (l : List Int) (j : Nat) : Int := if l = [] then 0 else (l.getD (j % l.length) 0).tmod 1001
theorem celS_in {l : List Int} (h : ∀ z ∈ l, 0 ≤ z ∧ z < 65536) (j : Nat) : 0 ≤ celS l j ∧ celS l j ≤ 1000 := by
  unfold celS
  split
  · decide
  rename_i hl
  have h0 : 0 < l.length := List.length_pos_iff.2 hl; have hj := Nat.mod_lt j h0; have hz := h _ (List.getElem_mem hj); rw [List.getD_eq_getElem?_getD, List.getElem?_eq_getElem hj, Option.getD_some]; rw [Int.tmod_eq_emod_of_nonneg hz.1]; have := Int.emod_lt_of_pos l[j % l.length] (show (0 : Int) < 1001 by decide); have := Int.emod_nonneg l[j % l.length] (show (1001 : Int) ≠ 0 by decide)
  omega
def tabR (l : List Int) (m i : Nat) : List Int := (List.range m).map fun k => celS l (i * m + k)
def tabS (l : List Int) (n m : Nat) : List (List Int) := (List.range n).map (tabR l m)
theorem tabR_all {l : List Int} {m i : Nat} {fl : List Int} (hl : fl.length = m) (h : ∀ q, q < m → fl[q]? = some (celS l (i * m + q))) : fl = tabR l m i := by
  apply List.ext_getElem?
  intro q
  by_cases hq : q < m
  · rw [h q hq]; simp [tabR, List.getElem?_range, hq]
  rw [List.getElem?_eq_none (by omega), List.getElem?_eq_none (by simp [tabR]; omega)]
theorem tabS_len (l : List Int) (n m : Nat) : (tabS l n m).length = n := by simp [tabS]
theorem tabS_at {l : List Int} {n m i k : Nat} (hi : i < n) (hk : k < m) : sAt (tabS l n m) i k = celS l (i * m + k) := by
  simp [sAt, tabS, tabR, List.getElem?_range, hi, hk]
theorem tabS_ok {l : List Int} (h : ∀ z ∈ l, 0 ≤ z ∧ z < 65536) {n m : Nat} (hn : n ≤ 1024) (hm : m ≤ 1024) : TabOk (tabS l n m) m := by
  refine ⟨fun r hr => ?_, ⟨by rw [tabS_len]; exact hn, hm⟩, fun i k hi hk => ?_⟩
  · obtain ⟨i, -, rfl⟩ := List.mem_map.1 hr
    simp [tabR]
  rw [tabS_len] at hi; rw [tabS_at hi hk]; exact celS_in h _
theorem tab_chk {S : List (List Int)} {m : Nat} (h : TabOk S m) : chkS S = 0 := by
  have hl := h.len; rw [chkS, if_neg (by omega)]; refine fstErr_all fun j hj => ?_
  have hhd : (S.headD []).length = m := by rw [headD_len (by omega)]; exact h.wid _ (List.getElem_mem _)
  have hw := h.wid _ (List.getElem_mem hj); rw [rowChk, if_neg (by omega), if_neg (by omega), if_pos]; rw [List.all_eq_true]; intro x hx; obtain ⟨k, hk, rfl⟩ := List.getElem_of_mem hx; have := h.ok j k hj (by omega); rw [sAt_eq hj hk] at this
  simp [okN, this]
set_option maxHeartbeats 1000000 in
theorem table_spec (G : GH) (w0 : World) (hG : Hold G w0) (l : List Int) (hl : ∀ z ∈ l, 0 ≤ z ∧ z < 65536) (v : Value) (hv : RepV G (.sl 1 (l.map u16Dat)) v) (n m : Nat) (hn : n ≤ 64) (hm : m ≤ 64) :
    Calls Tryd.prog 9 #[v, vi n, vi m] w0 (Ret w0 G fun u G' => RepV G' (.sl 1 ((tabS l n m).map rowDat)) u) := by
  obtain ⟨A, c, rfl, hc1, hc2, -⟩ := hv.slice; have hml : maxLen = 9223372036854775807 := rfl; rw [List.length_map] at *; have htl := tabS_len l n m; refine enter (N := 49) (T := [(0, _), (1, _), (2, _)]) (F := fun k => k < w0.heap.size) (L := []) Tryd.func9 rfl Tryd.ntmps9 rfl rfl hG (fun _ h => h) (fun _ h => by cases h) (fun _ h => by cases h) (fun _ h => by cases h) List.Pairwise.nil ?_; intro a H; refine c_seq (fun _ hK1 => ?_); refine c_region ?_; refine s_assign H wn rfl rfl ?_; clear H; intro a H; refine wl_nil ?_; refine hK1 _ _ ?_; clear hK1; refine c_seq (fun _ hK2 => ?_); refine c_region ?_; refine s_assign H wn rfl rfl ?_; clear H; intro a H; refine wl_nil ?_; refine hK2 _ _ ?_; clear hK2; refine c_seq (fun _ hK3 => ?_); refine c_seq (fun _ hK4 => ?_); refine c_region ?_; refine s_assign H wn rfl rfl ?_; clear H; intro a H; refine wl_nil ?_; refine hK4 _ _ ?_; clear hK4; refine c_block ?_; skip; refine c_loopS (ι := Nat × Value × List Value × OL × GH) (Tc := [(0, _), (1, _), (2, _)]) (Lc := []) (fun (gh : Nat × Value × List Value × OL × GH) => [(7, gh.2.1), (8, vi gh.1)]) (fun (gh : Nat × Value × List Value × OL × GH) => [] ++ gh.2.2.2.1) (fun (gh : Nat × Value × List Value × OL × GH) => gh.2.2.2.2) (fun (gh : Nat × Value × List Value × OL × GH) => gh.1 ≤ n ∧ IsRow 32 1 gh.2.1 gh.1 gh.2.2.1 gh.2.2.2.1 ∧ RepCat gh.2.2.2.2 1 (((tabS l n m).take gh.1).map rowDat) gh.2.2.1 ∧ (∀ b o, G b = some o → gh.2.2.2.2 b = some o)) (fun (gh : Nat × Value × List Value × OL × GH) => n - gh.1) ((0, .slice none 0 0, [], [], G)) (by exact (H).sub ⟨rfl, rfl, rfl, rfl, rfl, trivial⟩) ?_ ?_
  · exact ⟨Nat.zero_le _, IsRow.nil, RepCat.nil, fun _ _ h => h⟩
  clear H; intro gh a w hI H; obtain ⟨i, v7, xs, Lo, g⟩ := gh; dsimp only at hI H; obtain ⟨hi, hrw, hcat, hgm⟩ := hI; dsimp only [List.cons_append, List.nil_append, List.append_nil] at H; refine c_seq (fun _ hK5 => ?_); refine c_seq (fun _ hK6 => ?_); refine c_region ?_; (iterate 2 refine s_move H wn rfl rfl ?_; clear H; intro a H); refine s_cmp H wn rfl rfl rfl rfl ?_; clear H; intro a H; refine wl_nil ?_; refine hK6 _ _ ?_; clear hK6; refine c_cond H rfl ?_ ?_
  · intro h13
    try have p13 := of_decide_eq_true h13
    have hi1 : i < n := by omega
    refine c_skip ?_; refine hK5 _ _ ?_; clear hK5; refine c_seq (fun _ hK7 => ?_); refine c_block ?_; refine c_seq (fun _ hK8 => ?_); refine c_region ?_; refine s_move H wn rfl rfl ?_; clear H; intro a H; refine s_make1 m un32tab ty3tab H wn rfl rfl rfl (by omega) (by omega) rfl ?_; clear H; intro b17 a w hb17 H; rw [show List.replicate m (Value.int .i64 0) = (List.replicate m (0 : Int)).map vi from List.map_replicate.symm] at H; refine s_assign H wn rfl rfl ?_; clear H; intro a H; refine wl_nil ?_; refine hK8 _ _ ?_; clear hK8; refine c_seq (fun _ hK9 => ?_); refine c_seq (fun _ hK10 => ?_); refine c_region ?_; refine s_assign H wn rfl rfl ?_; clear H; intro a H; refine wl_nil ?_; refine hK10 _ _ ?_; clear hK10; refine c_block ?_; skip; refine c_loopS (ι := Nat × List Int) (Tc := [(0, _), (1, _), (2, _), (7, _), (8, _), (9, _)]) (Lc := []) (fun (gh : Nat × List Int) => [(10, vi gh.1)]) (fun (gh : Nat × List Int) => [bF b17 gh.2] ++ Lo) (fun (gh : Nat × List Int) => g) (fun (gh : Nat × List Int) => gh.1 ≤ m ∧ gh.2.length = m ∧ (∀ q, q < gh.1 → gh.2[q]? = some (celS l (i * m + q))) ∧ (∀ q, gh.1 ≤ q → q < m → gh.2[q]? = some 0)) (fun (gh : Nat × List Int) => m - gh.1) ((0, List.replicate m 0)) (by exact (H).sub ⟨rfl, rfl, rfl, rfl, rfl, rfl, rfl, trivial⟩) ?_ ?_
    · exact ⟨Nat.zero_le _, by simp, fun q hq => absurd hq (Nat.not_lt_zero _), fun q h1 h2 => by simp [List.getElem?_replicate, h2]⟩
    clear H; intro gh a w hI H; obtain ⟨k, fl⟩ := gh; dsimp only at hI H; obtain ⟨hk, hfl, hfq, hf0⟩ := hI; dsimp only [List.cons_append, List.nil_append, List.append_nil] at H; refine c_seq (fun _ hK11 => ?_); refine c_seq (fun _ hK12 => ?_); refine c_region ?_; (iterate 2 refine s_move H wn rfl rfl ?_; clear H; intro a H); refine s_cmp H wn rfl rfl rfl rfl ?_; clear H; intro a H; refine s_move H wn rfl rfl ?_; clear H; intro a H; refine s_split H 21 rfl ?_ ?_
    · intro h21
      try have p21 := of_decide_eq_true h21
      refine s_move H (wg H rfl rfl h21) rfl rfl ?_; clear H; intro a H; refine s_len un22tab H (wg H rfl rfl h21) rfl rfl ?_; clear H; intro a H; refine s_cmp H (wg H rfl rfl h21) rfl rfl rfl rfl ?_; clear H; intro a H; refine s_pick_t H wn rfl h21 rfl rfl ?_; clear H; intro a H; refine wl_nil ?_; refine hK12 _ _ ?_; clear hK12; refine c_cond H rfl ?_ ?_
      · intro h25
        try have p25 := of_decide_eq_true h25
        have hk1 : k < m := by omega
        have hl0 : 0 < l.length := by omega
        have hlt := Nat.mod_lt (i * m + k) hl0; obtain ⟨b, o, rfl, gn⟩ := u16_at (hv.mono hgm) hlt; have hz := hl _ (List.getElem_mem hlt)
        have hmul : (i : Int) * m = ((i * m : Nat) : Int) := by push_cast; rfl
        have hib : i * m ≤ 4096 := Nat.le_trans (Nat.mul_le_mul (show i ≤ 64 by omega) hm) (by decide)
        have hcel : celS l (i * m + k) = (l[(i * m + k) % l.length]).tmod 1001 := by
          rw [celS, if_neg (List.length_pos_iff.1 hl0), List.getD_eq_getElem?_getD, List.getElem?_eq_getElem hlt, Option.getD_some]
        refine c_skip ?_; refine hK11 _ _ ?_; clear hK11; refine c_seq (fun _ hK13 => ?_); refine c_block ?_; refine c_region ?_; (iterate 5 refine s_move H wn rfl rfl ?_; clear H; intro a H); refine s_mul ((i * m : Nat) : Int) H wn rfl rfl hmul (by omega) (by omega) rfl ?_; clear H; intro a H; refine s_move H wn rfl rfl ?_; clear H; intro a H; refine s_add _ H wn rfl rfl rfl (by omega) (by omega) rfl ?_; clear H; intro a H; refine s_move H wn rfl rfl ?_; clear H; intro a H; refine s_len un22tab H wn rfl rfl ?_; clear H; intro a H; refine s_rem (((i * m + k) % l.length : Nat) : Int) H wn rfl rfl (by omega) (by rw [Int.tmod_eq_emod_of_nonneg (by omega)]; push_cast; rfl) rfl ?_; clear H; intro a H; refine s_index un22tab ty53tab ((i * m + k) % l.length) H wn rfl rfl rfl hlt rfl ?_; clear H; intro a H; refine s_load ty53tab H wn rfl (H.hp.gcell gn) rfl ?_; clear H; intro a H; refine s_conv l[(i * m + k) % l.length] un3tab un53tab H wn rfl (by rw [i64_wrap (by omega) (by omega)]) rfl ?_; clear H; intro a H; refine s_rem (celS l (i * m + k)) H wn rfl rfl (by decide) hcel.symm rfl ?_; clear H; intro a H; refine s_index un32tab ty3tab k H wn rfl rfl rfl (by omega) rfl ?_; clear H; intro a H; refine s_store ty3tab 0 (c := fl.map vi) (vs := [_]) ((fl.set k (celS l (i * m + k))).map vi) H wn rfl rfl rfl rfl rfl rfl (Eq.mpr Nat.ble_eq (by rw [List.length_map, hfl]; simp only [List.length_singleton]; omega)) (by rw [Nat.zero_add, Nat.mul_one, List.map_set]; rfl) ?_; clear H; intro w H; dsimp only [List.set] at H; refine wl_nil ?_; refine hK13 _ _ ?_; clear hK13; refine c_region ?_; refine s_move H wn rfl rfl ?_; clear H; intro a H; refine s_add _ H wn rfl rfl rfl (by omega) (by omega) rfl ?_; clear H; intro a H; refine s_assign H wn rfl rfl ?_; clear H; intro a H; refine wl_nil ?_; refine loop_end ((k + 1, fl.set k (celS l (i * m + k)))) (by exact (H).sub ⟨rfl, rfl, rfl, rfl, rfl, rfl, rfl, trivial⟩) ?_ ?_
        · try dsimp only
          exact ⟨by omega, by simp [hfl], fun q hq => by
              by_cases e : q = k
              · subst e; rw [List.getElem?_set_self (by omega)]
              rw [List.getElem?_set_ne (by omega)]; exact hfq q (by omega), fun q h1 h2 => by rw [List.getElem?_set_ne (by omega)]; exact hf0 q (by omega) h2⟩
        first | omega | (dsimp only; omega)
      intro h25
      try have p25 := of_decide_eq_false h25
      refine c_exit ?_; refine hK9 _ _ ?_; clear hK9
      have hall : ∀ q, q < m → fl[q]? = some (celS l (i * m + q)) := fun q hq => by
        by_cases e : q < k
        · exact hfq q e
        have hl0 : l = [] := by
          rcases Nat.lt_or_ge k m with h | h
          · exact List.eq_nil_of_length_eq_zero (by omega)
          omega
        rw [hf0 q (by omega) hq, celS, if_pos hl0]
      have hrow := tabR_all hfl hall; obtain ⟨G3, hm3, hg3, H⟩ := St.giveBox H
      have hrow3 : RepV G3 (.sl 1 ((tabR l m i).map numDat)) (.slice (some ⟨b17, 0, none⟩) m m) := by
        rw [← hrow]; exact RepV.of_row (xs := fl.map vi) hg3 (by rw [List.length_map, hfl]) (Nat.le_refl _) (by omega) (List.take_of_length_le (by simp [hfl])) (nums_cat _ _)
      have hcat3 : RepCat G3 1 (((tabS l n m).take (i + 1)).map rowDat) (xs ++ [.slice (some ⟨b17, 0, none⟩) m m]) := by
        rw [List.take_succ_eq_append_getElem (by omega), show (tabS l n m)[i]'(by omega) = tabR l m i by simp [tabS], List.map_append]; exact (hcat.mono hm3).snoc (rowd_row hrow3) rfl
      refine c_region ?_; (iterate 2 refine s_move H wn rfl rfl ?_; clear H; intro a H); refine s_buildSlice un23tab ty32tab [_] [_] H wn rfl rfl rfl rfl rfl (by intro i q h; match i, h with | 0, h => exact h | n + 1, h => simp at h) rfl rfl ?_; clear H; intro b46 a w hb46 H; refine s_append (Li := [_]) (Lo := Lo) (news := [.slice (some ⟨b17, 0, none⟩) m m]) un23tab ty32tab rfl rfl H wn rfl rfl hrw rfl (H.hp.ocells 0 rfl rfl) rfl (by omega) (by omega) rfl ?_; clear H; intro v47 Lo47 a w hrw47 H; refine s_assign H wn rfl rfl ?_; clear H; intro a H; refine wl_nil ?_; refine hK7 _ _ ?_; clear hK7; refine c_region ?_; refine s_move H wn rfl rfl ?_; clear H; intro a H; refine s_add _ H wn rfl rfl rfl (by omega) (by omega) rfl ?_; clear H; intro a H; refine s_assign H wn rfl rfl ?_; clear H; intro a H; refine wl_nil ?_; refine loop_end ((i + 1, v47, xs ++ [.slice (some ⟨b17, 0, none⟩) m m], Lo47, G3)) (by exact (H.pickT (Pl := [_]) (Pl' := []) [] (by decide) rfl).sub ⟨rfl, rfl, rfl, rfl, rfl, trivial⟩) ?_ ?_
      · (try dsimp only); exact ⟨by omega, hrw47, hcat3, fun b o h => hm3 b o (hgm b o h)⟩
      first | omega | (dsimp only; omega)
    intro h21
    try have p21 := of_decide_eq_false h21
    (iterate 3 refine s_skip H rfl rfl h21 rfl ?_; clear H; intro a H); refine s_pick_f H wn rfl h21 rfl rfl ?_; clear H; intro a H; refine wl_nil ?_; refine hK12 _ _ ?_; clear hK12; refine c_cond_f H rfl rfl ?_; refine c_exit ?_; refine hK9 _ _ ?_; clear hK9
    have hall : ∀ q, q < m → fl[q]? = some (celS l (i * m + q)) := fun q hq => by
      by_cases e : q < k
      · exact hfq q e
      have hl0 : l = [] := by
        rcases Nat.lt_or_ge k m with h | h
        · exact List.eq_nil_of_length_eq_zero (by omega)
        omega
      rw [hf0 q (by omega) hq, celS, if_pos hl0]
    have hrow := tabR_all hfl hall; obtain ⟨G3, hm3, hg3, H⟩ := St.giveBox H
    have hrow3 : RepV G3 (.sl 1 ((tabR l m i).map numDat)) (.slice (some ⟨b17, 0, none⟩) m m) := by
      rw [← hrow]; exact RepV.of_row (xs := fl.map vi) hg3 (by rw [List.length_map, hfl]) (Nat.le_refl _) (by omega) (List.take_of_length_le (by simp [hfl])) (nums_cat _ _)
    have hcat3 : RepCat G3 1 (((tabS l n m).take (i + 1)).map rowDat) (xs ++ [.slice (some ⟨b17, 0, none⟩) m m]) := by
      rw [List.take_succ_eq_append_getElem (by omega), show (tabS l n m)[i]'(by omega) = tabR l m i by simp [tabS], List.map_append]; exact (hcat.mono hm3).snoc (rowd_row hrow3) rfl
    refine c_region ?_; (iterate 2 refine s_move H wn rfl rfl ?_; clear H; intro a H); refine s_buildSlice un23tab ty32tab [_] [_] H wn rfl rfl rfl rfl rfl (by intro i q h; match i, h with | 0, h => exact h | n + 1, h => simp at h) rfl rfl ?_; clear H; intro b46 a w hb46 H; refine s_append (Li := [_]) (Lo := Lo) (news := [.slice (some ⟨b17, 0, none⟩) m m]) un23tab ty32tab rfl rfl H wn rfl rfl hrw rfl (H.hp.ocells 0 rfl rfl) rfl (by omega) (by omega) rfl ?_; clear H; intro v47 Lo47 a w hrw47 H; refine s_assign H wn rfl rfl ?_; clear H; intro a H; refine wl_nil ?_; refine hK7 _ _ ?_; clear hK7; refine c_region ?_; refine s_move H wn rfl rfl ?_; clear H; intro a H; refine s_add _ H wn rfl rfl rfl (by omega) (by omega) rfl ?_; clear H; intro a H; refine s_assign H wn rfl rfl ?_; clear H; intro a H; refine wl_nil ?_; refine loop_end ((i + 1, v47, xs ++ [.slice (some ⟨b17, 0, none⟩) m m], Lo47, G3)) (by exact (H.pickT (Pl := [_]) (Pl' := []) [] (by decide) rfl).sub ⟨rfl, rfl, rfl, rfl, rfl, trivial⟩) ?_ ?_
    · (try dsimp only); exact ⟨by omega, hrw47, hcat3, fun b o h => hm3 b o (hgm b o h)⟩
    first | omega | (dsimp only; omega)
  intro h13
  try have p13 := of_decide_eq_false h13
  refine c_exit ?_; refine hK3 _ _ ?_; clear hK3; refine c_seq (fun _ hK14 => ?_); refine c_region ?_; refine s_move H wn rfl rfl ?_; clear H; intro a H; refine s_assign H wn rfl rfl ?_; clear H; intro a H; refine wl_nil ?_; refine hK14 _ _ ?_; clear hK14; refine c_ret ?_
  have hie : i = n := by omega
  subst hie; obtain ⟨Gr, hmr, hrep, H⟩ := St.giveRow (Li := []) (Lo := Lo) H hrw (rows := (tabS l i m).map rowDat) (by rw [List.length_map]; omega) (by rw [List.take_of_length_le (by omega)] at hcat; exact hcat); refine (leave1 H Tryd.results9 (.cons (rv_tmp H rfl) .nil) ?_).1; exact H.hp.ret hrep
end Go.Proofs.YtpmcdlhhfbobfaaDoor
