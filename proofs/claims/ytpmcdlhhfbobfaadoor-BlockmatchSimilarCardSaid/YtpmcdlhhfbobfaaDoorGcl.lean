/-
  Package grapheme: clusters, Boundaries.
-/
import Derived.Test.YtpmcdlhhfbobfaaDoorVal
import Derived.Test.YtpmcdlhhfbobfaaDoorRg
namespace Go.Proofs.YtpmcdlhhfbobfaaDoor
open Go.RowKit
theorem en64gcl : ∀ args w, (callFunc 64 args).run Tryd.prog w = .ok (.enter 64 args) w := enters Tryd.func64 rfl (by kernel_rfl)
theorem ty9gcl : Ty Tryd.prog 9 1 16 [.string ⟨#[]⟩] false := ⟨by kernel_rfl, by kernel_rfl⟩
theorem un9gcl : Tryd.prog.underlying 9 = some .string := by kernel_rfl
theorem un3gcl : Tryd.prog.underlying 3 = some (.int .i64) := by kernel_rfl
theorem un21gcl : Tryd.prog.underlying 21 = some (.int .i32) := by kernel_rfl
theorem en65gcl : ∀ args w, (callFunc 65 args).run Tryd.prog w = .ok (.enter 65 args) w := enters Tryd.func65 rfl (by kernel_rfl)
theorem en66gcl : ∀ args w, (callFunc 66 args).run Tryd.prog w = .ok (.enter 66 args) w := enters Tryd.func66 rfl (by kernel_rfl)
theorem un114gcl : Tryd.prog.underlying 114 = some (.array 2 3) := by kernel_rfl
theorem ty3gcl : Ty Tryd.prog 3 1 8 [.int .i64 0] false := ⟨by kernel_rfl, by kernel_rfl⟩
theorem en67gcl : ∀ args w, (callFunc 67 args).run Tryd.prog w = .ok (.enter 67 args) w := enters Tryd.func67 rfl (by kernel_rfl)
theorem ty131gcl : Ty Tryd.prog 131 4 24 [.int .i64 0, .bool false, .bool false, .int .i64 0] true := ⟨by kernel_rfl, by kernel_rfl⟩
theorem en54gcl : ∀ args w, (callFunc 54 args).run Tryd.prog w = .ok (.enter 54 args) w := enters Tryd.func54 rfl (by kernel_rfl)
theorem en55gcl : ∀ args w, (callFunc 55 args).run Tryd.prog w = .ok (.enter 55 args) w := enters Tryd.func55 rfl (by kernel_rfl)
theorem un32gcl : Tryd.prog.underlying 32 = some (.slice 3) := by kernel_rfl
theorem ty32gcl : Ty Tryd.prog 32 1 24 [.slice none 0 0] false := ⟨by kernel_rfl, by kernel_rfl⟩
theorem en63gcl : ∀ args w, (callFunc 63 args).run Tryd.prog w = .ok (.enter 63 args) w := enters Tryd.func63 rfl (by kernel_rfl)
theorem ty114gcl : Ty Tryd.prog 114 2 16 [.int .i64 0, .int .i64 0] true := ⟨by kernel_rfl, by kernel_rfl⟩
theorem rnF_in {s : ByteArray} {f p : Nat} (hf : s.size - p ≤ f) (h : p < s.size) : rnF s f p = (p, (Utf8.decode s p).1) :: rnF s (f - 1) (p + (Utf8.decode s p).2) := by
  match f, hf with
  | 0, hf => omega
  | f + 1, _ => rw [rnF, if_pos h]; rfl
theorem rnF_end {s : ByteArray} {f p : Nat} (h : ¬ p < s.size) : rnF s f p = [] := by
  match f with
  | 0 => rfl
  | f + 1 => rw [rnF, if_neg h]
theorem decode_le (s : ByteArray) (p : Nat) : (Utf8.decode s p).1 ≤ 2097151 := by
  simp only [Utf8.decode, Utf8.runeError]
  repeat' split
  all_goals (dsimp only; omega)
theorem decode_w (s : ByteArray) (p : Nat) : (Utf8.decode s p).2 ≤ 4 := by
  simp only [Utf8.decode]
  repeat' split
  all_goals simp
theorem take_reg {m : MacD} {c : Int} {u : Nat} (h : 0 ≤ m.regionals ∧ m.regionals ≤ (u : Int)) : 0 ≤ (takeS m c).regionals ∧ (takeS m c).regionals ≤ ((u + 1 : Nat) : Int) := by
  simp only [takeS]; split <;> omega
/-- The clusters: their units and their bytes. -/
def clG (size : Nat) : List (Nat × Nat) → Nat → Nat → Nat → MacD → List (Nat × Nat × Nat × Nat)
  | [], unit, from_, start, _ => if 0 < unit then [(from_, unit, start, size)] else []
  | x :: l, unit, from_, start, m =>
    if 0 < unit ∧ bndS m (clsOf gTab x.2) = true then (from_, unit, start, x.1) :: clG size l (unit + 1) unit x.1 (takeS m (clsOf gTab x.2))
    else clG size l (unit + 1) from_ start (takeS m (clsOf gTab x.2))
def clS (s : ByteArray) : List (Nat × Nat × Nat × Nat) := clG s.size (rnS s) 0 0 0 ⟨0, false, false, 0⟩
def clP (s : ByteArray) (x : Nat × Nat × Nat × Nat) : AP := fun args _ => args = [.agg #[vi x.1, vi x.2.1], .string (s.extract x.2.2.1 x.2.2.2)]
theorem cl_at {s : ByteArray} {A : List (Nat × Nat × Nat × Nat)} {k : Nat} {args : List Value} {g : GH} (h : AtAP (A.map (clP s)) k args g) : ∃ (hk : k < A.length), args = [.agg #[vi A[k].1, vi A[k].2.1], .string (s.extract A[k].2.2.1 A[k].2.2.2)] := by
  obtain ⟨p, hp, hargs⟩ := h; rw [List.getElem?_map] at hp; obtain ⟨q, hq, rfl⟩ := Option.map_eq_some_iff.1 hp; obtain ⟨hk, rfl⟩ := List.getElem?_eq_some_iff.1 hq; exact ⟨hk, hargs⟩
set_option maxHeartbeats 2000000 in
theorem clusters1_iter {G : GH} {bd : Nat} {s : ByteArray} (hb : gcell G bd 0 = some (.string s)) (hz : s.size ≤ 1073741824) :
    Iter Tryd.prog G (.func (.func 63) #[] #[.pointer (some ⟨bd, 0, none⟩)]) ((clS s).map (clP s)) := by
  intro J Jx fv G1 L w0 hfv hGi hJm hJx hJ hO hcb; refine callV_func (caps := [.pointer (some ⟨bd, 0, none⟩)]) en63gcl ?_; replace hb := gcell_mono hGi hb; refine enterL (N := 54) (T := [(0, _), (1, _)]) Tryd.func63 rfl Tryd.ntmps63 rfl rfl hO ?_; intro a H; refine c_seq (fun _ hK1 => ?_); refine c_region ?_; refine s_call en64gcl H wn rfl (gtable_spec _ _ H.hp.ro) rfl ?_; clear H; rintro v11 G11 a w hgt hm11 H; replace hb := gcell_mono hm11 hb; refine s_assign H wn rfl rfl ?_; clear H; intro a H; refine wl_nil ?_; refine hK1 _ _ ?_; clear hK1; refine c_seq (fun _ hK2 => ?_); refine c_region ?_; refine s_alloc ty131gcl H wn rfl ?_; clear H; intro b4 a w hb4 H; refine wl_nil ?_; refine hK2 _ _ ?_; clear hK2; refine c_seq (fun _ hK3 => ?_); refine c_region ?_; (iterate 3 refine s_assign H wn rfl rfl ?_; clear H; intro a H); refine wl_nil ?_; refine hK3 _ _ ?_; clear hK3; refine c_seq (fun _ hK4 => ?_); refine c_seq (fun _ hK5 => ?_); refine c_region ?_; refine s_load ty9gcl H wn rfl (H.hp.gcell hb) rfl ?_; clear H; intro a H; refine s_range un9gcl H wn rfl rfl ?_; clear H; intro b13 a w hb13 H; refine wl_nil ?_; refine hK5 _ _ ?_; clear hK5; refine c_block ?_; skip; refine c_loopS (ι := Nat × Nat × Nat × Nat × Nat × MacD × Nat × OL × GH) (Tc := [(0, _), (1, _), (3, _), (4, _), (13, _)]) (Lc := []) (fun (gh : Nat × Nat × Nat × Nat × Nat × MacD × Nat × OL × GH) => [(5, vi gh.2.2.1), (6, vi gh.2.2.2.1), (7, vi gh.2.2.2.2.1)]) (fun (gh : Nat × Nat × Nat × Nat × Nat × MacD × Nat × OL × GH) => [(b13, .stringIter s gh.1), bM b4 gh.2.2.2.2.2.1] ++ gh.2.2.2.2.2.2.2.1) (fun (gh : Nat × Nat × Nat × Nat × Nat × MacD × Nat × OL × GH) => gh.2.2.2.2.2.2.2.2) (fun (gh : Nat × Nat × Nat × Nat × Nat × MacD × Nat × OL × GH) => s.size - gh.1 ≤ gh.2.1 ∧ gh.2.2.1 ≤ gh.1 ∧ gh.1 ≤ s.size + 8 ∧ gh.2.2.2.1 ≤ gh.2.2.1 ∧ gh.2.2.2.2.1 ≤ gh.1 ∧ gh.2.2.2.2.1 ≤ s.size ∧ (0 ≤ gh.2.2.2.2.2.1.regionals ∧ gh.2.2.2.2.2.1.regionals ≤ gh.2.2.1) ∧ (∀ b o, G11 b = some o → gh.2.2.2.2.2.2.2.2 b = some o) ∧ Now ((clS s).map (clP s)) (clP s) J (clS s).length gh.2.2.2.2.2.2.1 (clG s.size (rnF s gh.2.1 gh.1) gh.2.2.1 gh.2.2.2.1 gh.2.2.2.2.1 gh.2.2.2.2.2.1) gh.2.2.2.2.2.2.2.2 gh.2.2.2.2.2.2.2.1) (fun (gh : Nat × Nat × Nat × Nat × Nat × MacD × Nat × OL × GH) => s.size + 8 - gh.1) ((0, s.size, 0, 0, 0, ⟨0, false, false, 0⟩, 0, L, G11)) (by exact (H).sub ⟨rfl, rfl, rfl, rfl, rfl, rfl, rfl, rfl, trivial⟩) ?_ ?_
  · exact ⟨by rw [Nat.sub_zero]; exact Nat.le_refl _, Nat.le_refl _, Nat.zero_le _, Nat.le_refl _, Nat.le_refl _, Nat.zero_le _, ⟨Int.le_refl _, Int.le_refl _⟩, fun _ _ h => h, ⟨hJm _ _ _ _ hm11 hJ, fun i a h => by rw [Nat.zero_add, List.getElem?_map]; rw [show clG s.size (rnF s s.size 0) 0 0 0 ⟨0, false, false, 0⟩ = clS s from rfl] at h; rw [h]; rfl, by show 0 + (clS s).length = _; omega⟩⟩
  clear H; intro gh a w hI H; obtain ⟨pos, f, unit, from_, start, m, j1, Lt, g⟩ := gh; dsimp only at hI H; obtain ⟨hf, hup, hpos, hfr, hst, hst2, hreg, hgm, hnow⟩ := hI; dsimp only [List.cons_append, List.nil_append, List.append_nil] at H; refine c_seq (fun _ hK6 => ?_); refine c_region ?_; refine s_next (i := 0) H wn rfl rfl rfl ?_; clear H; intro a w H; dsimp only [List.set] at H; refine s_extract H wn rfl nextV_0 rfl ?_; clear H; intro a H; refine wl_nil ?_; refine hK6 _ _ ?_; clear hK6; refine c_seq (fun _ hK7 => ?_); refine c_cond H rfl ?_ ?_
  · intro h15
    try have p15 := of_decide_eq_true h15
    rw [nextV_in p15, nextP_in p15] at H; rw [rnF_in hf p15, clG] at hnow; have hd1 := decode_pos s pos; have hd2 := decode_le s pos; obtain ⟨r, hr⟩ : ∃ r, r = (Utf8.decode s pos).1 := ⟨_, rfl⟩; obtain ⟨wd, hwd⟩ : ∃ wd, wd = (Utf8.decode s pos).2 := ⟨_, rfl⟩; rw [← hr] at hd2; rw [← hr, ← hwd] at H hnow; rw [← hwd] at hd1; obtain ⟨c, hc⟩ : ∃ c, c = clsOf gTab (r : Int) := ⟨_, rfl⟩; dsimp only at hnow; rw [← hc] at hnow
    have hwd4 : wd ≤ 4 := by rw [hwd]; exact decode_w s pos
    refine c_skip ?_; refine hK7 _ _ ?_; clear hK7; refine c_block ?_; refine c_seq (fun _ hK8 => ?_); refine c_region ?_; (iterate 2 refine s_extract H wn rfl rfl rfl ?_; clear H; intro a H); (iterate 2 refine s_assign H wn rfl rfl ?_; clear H; intro a H); refine wl_nil ?_; refine hK8 _ _ ?_; clear hK8; refine c_seq (fun _ hK9 => ?_); refine c_region ?_; (iterate 2 refine s_move H wn rfl rfl ?_; clear H; intro a H); refine s_conv ((r : Nat) : Int) un3gcl un21gcl H wn rfl (i64_wrap (by omega) (by omega)) rfl ?_; clear H; intro a H; refine s_call en65gcl H wn rfl (classOf_spec _ _ H.hp.ro gTab r _ (hgt.mono hgm) (by decide) ⟨by omega, by omega⟩) rfl ?_; clear H; rintro v21 G21 a w rfl hm21 H; rw [← hc] at H; refine s_assign H wn rfl rfl ?_; clear H; intro a H; refine wl_nil ?_; refine hK9 _ _ ?_; clear hK9; refine c_seq (fun _ hK10 => ?_); refine c_seq (fun _ hK11 => ?_); refine c_region ?_; refine s_move H wn rfl rfl ?_; clear H; intro a H; refine s_cmp H wn rfl rfl rfl rfl ?_; clear H; intro a H; refine s_move H wn rfl rfl ?_; clear H; intro a H; refine s_split H 24 rfl ?_ ?_
    · intro h24
      try have p24 := of_decide_eq_true h24
      refine s_move H (wg H rfl rfl h24) rfl rfl ?_; clear H; intro a H; have H := H.perm (pm_out [_] [] [_] Lt); refine s_callL en66gcl (Li := [_] ++ ([] ++ Lt)) (L := [_]) H (wg H rfl rfl h24) rfl (boundary_spec m c (Hp.owns (Li := [_] ++ ([] ++ Lt)) H.hp)) rfl ?_; clear H; rintro v26 _ _ a w ⟨rfl, rfl, rfl⟩ - H; have H := H.perm (pm_out [_] [] [_] Lt).symm; dsimp only [List.nil_append, List.cons_append] at H; refine s_pick_t H wn rfl h24 rfl rfl ?_; clear H; intro a H; refine wl_nil ?_; refine hK11 _ _ ?_; clear hK11; refine c_cond H rfl ?_ ?_
      · intro h27
        try have p27 := of_decide_eq_true h27
        rw [if_pos ⟨by omega, h27⟩] at hnow; refine c_seq (fun _ hK12 => ?_); refine c_seq (fun _ hK13 => ?_); refine c_region ?_; (iterate 3 refine s_move H wn rfl rfl ?_; clear H; intro a H); refine s_buildArr (z := [.int .i64 0, .int .i64 0]) un114gcl ty3gcl (by kernel_rfl) [_, _] H wn rfl rfl (fun i q h => by match i, h with | 0, h => exact h | 1, h => exact h | n + 2, h => simp at h) rfl rfl ?_; clear H; intro a H; refine s_load ty9gcl H wn rfl (H.hp.gcell (gcell_mono hm21 (gcell_mono hgm hb))) rfl ?_; clear H; intro a H; (iterate 2 refine s_move H wn rfl rfl ?_; clear H; intro a H); refine s_strSlice start pos un9gcl H wn rfl rfl rfl rfl rfl (by omega) (by omega) rfl ?_; clear H; intro a H; refine s_callv (Li := [_, _]) (L := Lt) H wn rfl rfl (hcb j1 _ _ _ _ ⟨_, hnow.head, rfl⟩ (fun b o h => hm21 b o (hgm b o (hm11 b o h))) (hJm _ _ _ _ hm21 hnow.now) (Hp.owns (Li := [_, _]) H.hp)) rfl ?_; clear H; rintro v36 G36 Lt36 a w ⟨b36, rfl, hb1, hb2⟩ hm36 H; refine s_not H wn rfl rfl ?_; clear H; intro a H; refine wl_nil ?_; refine hK13 _ _ ?_; clear hK13; refine c_cond H rfl ?_ ?_
        · intro h37
          try have p37 := of_decide_eq_true h37
          refine c_ret ?_; refine (leave0 H Tryd.results63 ?_).1; exact H.hp.retD (L' := Lt36) (by repeat (first | exact List.Sublist.refl _ | apply List.Sublist.cons)) (.inr (hb2 (by simpa using h37)))
        intro h37
        try have p37 := of_decide_eq_false h37
        have hnow2 := hnow.step (hb1 (by simpa using h37)); refine c_skip ?_; refine hK12 _ _ ?_; clear hK12; refine c_region ?_; (iterate 2 refine s_move H wn rfl rfl ?_; clear H; intro a H); (iterate 2 refine s_assign H wn rfl rfl ?_; clear H; intro a H); refine wl_nil ?_; refine hK10 _ _ ?_; clear hK10; refine c_seq (fun _ hK14 => ?_); refine c_region ?_; refine s_move H wn rfl rfl ?_; clear H; intro a H
        first
          | (have H := H.perm (pm_out [_] [] [_] Lt36)
             refine s_callL en67gcl (Li := [_] ++ ([] ++ Lt36)) (L := [_]) H wn rfl (take_spec m c (Hp.owns (Li := [_] ++ ([] ++ Lt36)) H.hp) ⟨by omega, by omega⟩) rfl ?_; clear H; rintro v41 _ _ a w ⟨rfl, rfl⟩ - H
             have H := H.perm (pm_out [_] [] [_] Lt36).symm)
          | (have H := H.perm (pm_out [_] [] [_] Lt)
             refine s_callL en67gcl (Li := [_] ++ ([] ++ Lt)) (L := [_]) H wn rfl (take_spec m c (Hp.owns (Li := [_] ++ ([] ++ Lt)) H.hp) ⟨by omega, by omega⟩) rfl ?_; clear H; rintro v41 _ _ a w ⟨rfl, rfl⟩ - H
             have H := H.perm (pm_out [_] [] [_] Lt).symm)
        dsimp only [List.nil_append, List.cons_append] at H; have hreg2 := take_reg (m := m) (c := c) hreg; refine wl_nil ?_; refine hK14 _ _ ?_; clear hK14; refine c_region ?_; refine s_move H wn rfl rfl ?_; clear H; intro a H; refine s_add _ H wn rfl rfl rfl (by omega) (by omega) rfl ?_; clear H; intro a H; refine s_assign H wn rfl rfl ?_; clear H; intro a H; refine wl_nil ?_; refine loop_end ((pos + wd, f - 1, unit + 1, unit, pos, takeS m c, j1 + 1, Lt36, G36)) (by exact (H).sub ⟨rfl, rfl, rfl, rfl, rfl, rfl, rfl, rfl, trivial⟩) ?_ ?_
        · (try dsimp only); exact ⟨by omega, by omega, by omega, by omega, by omega, by omega, hreg2, fun b o h => hm36 b o (hm21 b o (hgm b o h)), hnow2⟩
        first | omega | (dsimp only; omega)
      intro h27
      try have p27 := of_decide_eq_false h27
      rw [if_neg (fun h => absurd h.2 (by rw [h27]; decide))] at hnow; refine c_skip ?_; refine hK10 _ _ ?_; clear hK10; refine c_seq (fun _ hK15 => ?_); refine c_region ?_; refine s_move H wn rfl rfl ?_; clear H; intro a H
      first
        | (have H := H.perm (pm_out [_] [] [_] Lt36)
           refine s_callL en67gcl (Li := [_] ++ ([] ++ Lt36)) (L := [_]) H wn rfl (take_spec m c (Hp.owns (Li := [_] ++ ([] ++ Lt36)) H.hp) ⟨by omega, by omega⟩) rfl ?_; clear H; rintro v41 _ _ a w ⟨rfl, rfl⟩ - H
           have H := H.perm (pm_out [_] [] [_] Lt36).symm)
        | (have H := H.perm (pm_out [_] [] [_] Lt)
           refine s_callL en67gcl (Li := [_] ++ ([] ++ Lt)) (L := [_]) H wn rfl (take_spec m c (Hp.owns (Li := [_] ++ ([] ++ Lt)) H.hp) ⟨by omega, by omega⟩) rfl ?_; clear H; rintro v41 _ _ a w ⟨rfl, rfl⟩ - H
           have H := H.perm (pm_out [_] [] [_] Lt).symm)
      dsimp only [List.nil_append, List.cons_append] at H; have hreg2 := take_reg (m := m) (c := c) hreg; refine wl_nil ?_; refine hK15 _ _ ?_; clear hK15; refine c_region ?_; refine s_move H wn rfl rfl ?_; clear H; intro a H; refine s_add _ H wn rfl rfl rfl (by omega) (by omega) rfl ?_; clear H; intro a H; refine s_assign H wn rfl rfl ?_; clear H; intro a H; refine wl_nil ?_; refine loop_end ((pos + wd, f - 1, unit + 1, from_, start, takeS m c, j1, Lt, G21)) (by exact (H).sub ⟨rfl, rfl, rfl, rfl, rfl, rfl, rfl, rfl, trivial⟩) ?_ ?_
      · (try dsimp only); exact ⟨by omega, by omega, by omega, by omega, by omega, by omega, hreg2, fun b o h => hm21 b o (hgm b o h), hJm _ _ _ _ hm21 hnow.now, hnow.rem, hnow.len⟩
      first | omega | (dsimp only; omega)
    intro h24
    try have p24 := of_decide_eq_false h24
    rw [if_neg (fun h => p24 (by omega))] at hnow; (iterate 2 refine s_skip H rfl rfl h24 rfl ?_; clear H; intro a H); refine s_pick_f H wn rfl h24 rfl rfl ?_; clear H; intro a H; refine wl_nil ?_; refine hK11 _ _ ?_; clear hK11; refine c_cond_f H rfl rfl ?_; refine c_skip ?_; refine hK10 _ _ ?_; clear hK10; refine c_seq (fun _ hK16 => ?_); refine c_region ?_; refine s_move H wn rfl rfl ?_; clear H; intro a H
    first
      | (have H := H.perm (pm_out [_] [] [_] Lt36)
         refine s_callL en67gcl (Li := [_] ++ ([] ++ Lt36)) (L := [_]) H wn rfl (take_spec m c (Hp.owns (Li := [_] ++ ([] ++ Lt36)) H.hp) ⟨by omega, by omega⟩) rfl ?_; clear H; rintro v41 _ _ a w ⟨rfl, rfl⟩ - H
         have H := H.perm (pm_out [_] [] [_] Lt36).symm)
      | (have H := H.perm (pm_out [_] [] [_] Lt)
         refine s_callL en67gcl (Li := [_] ++ ([] ++ Lt)) (L := [_]) H wn rfl (take_spec m c (Hp.owns (Li := [_] ++ ([] ++ Lt)) H.hp) ⟨by omega, by omega⟩) rfl ?_; clear H; rintro v41 _ _ a w ⟨rfl, rfl⟩ - H
         have H := H.perm (pm_out [_] [] [_] Lt).symm)
    dsimp only [List.nil_append, List.cons_append] at H; have hreg2 := take_reg (m := m) (c := c) hreg; refine wl_nil ?_; refine hK16 _ _ ?_; clear hK16; refine c_region ?_; refine s_move H wn rfl rfl ?_; clear H; intro a H; refine s_add _ H wn rfl rfl rfl (by omega) (by omega) rfl ?_; clear H; intro a H; refine s_assign H wn rfl rfl ?_; clear H; intro a H; refine wl_nil ?_; refine loop_end ((pos + wd, f - 1, unit + 1, from_, start, takeS m c, j1, Lt, G21)) (by exact (H).sub ⟨rfl, rfl, rfl, rfl, rfl, rfl, rfl, rfl, trivial⟩) ?_ ?_
    · (try dsimp only); exact ⟨by omega, by omega, by omega, by omega, by omega, by omega, hreg2, fun b o h => hm21 b o (hgm b o h), hJm _ _ _ _ hm21 hnow.now, hnow.rem, hnow.len⟩
    first | omega | (dsimp only; omega)
  intro h15
  try have p15 := of_decide_eq_false h15
  rw [rnF_end p15, clG] at hnow; have H := H.sub (T' := [(0, _), (1, _), (5, _), (6, _), (7, _)]) ⟨rfl, rfl, rfl, rfl, rfl, trivial⟩; refine c_exit ?_; refine hK4 _ _ ?_; clear hK4; refine c_seq (fun _ hK17 => ?_); refine c_region ?_; refine s_move H wn rfl rfl ?_; clear H; intro a H; refine s_cmp H wn rfl rfl rfl rfl ?_; clear H; intro a H; refine wl_nil ?_; refine hK17 _ _ ?_; clear hK17; refine c_cond H rfl ?_ ?_
  · intro h45
    try have p45 := of_decide_eq_true h45
    rw [if_pos (by omega)] at hnow; refine c_region ?_; (iterate 3 refine s_move H wn rfl rfl ?_; clear H; intro a H); refine s_buildArr (z := [.int .i64 0, .int .i64 0]) un114gcl ty3gcl (by kernel_rfl) [_, _] H wn rfl rfl (fun i q h => by match i, h with | 0, h => exact h | 1, h => exact h | n + 2, h => simp at h) rfl rfl ?_; clear H; intro a H; refine s_load ty9gcl H wn rfl (H.hp.gcell (gcell_mono hgm hb)) rfl ?_; clear H; intro a H; refine s_move H wn rfl rfl ?_; clear H; intro a H; refine s_strFrom start un9gcl H wn rfl rfl rfl (by omega) rfl ?_; clear H; intro a H; refine s_callv (Li := [_, _]) (L := Lt) H wn rfl rfl (hcb j1 _ _ _ _ ⟨_, hnow.head, rfl⟩ (fun b o h => hgm b o (hm11 b o h)) hnow.now (Hp.owns (Li := [_, _]) H.hp)) rfl ?_; clear H; rintro v53 G53 Lt53 a w ⟨b53, rfl, hb1, hb2⟩ hm53 H; refine wl_nil ?_; refine (leave0 H Tryd.results63 ?_).2
    first
      | (refine H.hp.retD (L' := Lt53) (by repeat (first | exact List.Sublist.refl _ | apply List.Sublist.cons)) ?_
         cases b53
         · exact .inr (hb2 rfl)
         have hnow2 := hnow.step (hb1 rfl); have h := hnow2.len
         simp only [List.length_nil, Nat.add_zero] at h
         refine .inl ?_; rw [List.length_map, ← h]
         exact hnow2.now)
      | (refine H.hp.retD (L' := Lt) (by repeat (first | exact List.Sublist.refl _ | apply List.Sublist.cons)) (.inl ?_)
         have h := hnow.len
         simp only [List.length_nil, Nat.add_zero] at h
         rw [List.length_map, ← h]
         exact hnow.now)
  intro h45
  try have p45 := of_decide_eq_false h45
  rw [if_neg (by omega)] at hnow; refine c_skip ?_; refine (leave0 H Tryd.results63 ?_).2
  first
    | (refine H.hp.retD (L' := Lt53) (by repeat (first | exact List.Sublist.refl _ | apply List.Sublist.cons)) ?_
       cases b53
       · exact .inr (hb2 rfl)
       have hnow2 := hnow.step (hb1 rfl); have h := hnow2.len
       simp only [List.length_nil, Nat.add_zero] at h
       refine .inl ?_; rw [List.length_map, ← h]
       exact hnow2.now)
    | (refine H.hp.retD (L' := Lt) (by repeat (first | exact List.Sublist.refl _ | apply List.Sublist.cons)) (.inl ?_)
       have h := hnow.len
       simp only [List.length_nil, Nat.add_zero] at h
       rw [List.length_map, ← h]
       exact hnow.now)
theorem gclusters_spec (G : GH) (w0 : World) (hG : Hold G w0) (s : ByteArray) (hz : s.size ≤ 1073741824) :
    Calls Tryd.prog 55 #[.string s] w0 (Ret w0 G fun u G' => ∃ bd, u = .func (.func 63) #[] #[.pointer (some ⟨bd, 0, none⟩)] ∧ Iter Tryd.prog G' u ((clS s).map (clP s))) := by
  refine enter (N := 4) (T := [(0, _)]) (F := fun k => k < w0.heap.size) (L := []) Tryd.func55 rfl Tryd.ntmps55 rfl rfl hG (fun _ h => h) (fun _ h => by cases h) (fun _ h => by cases h) (fun _ h => by cases h) List.Pairwise.nil ?_; intro a H; refine c_seq (fun _ hK1 => ?_); refine c_region ?_; refine s_box (cs := [_]) H wn rfl rfl rfl ?_; clear H; intro b1 a w hb1 H; refine s_assign H wn rfl rfl ?_; clear H; intro a H; refine wl_nil ?_; refine hK1 _ _ ?_; clear hK1; refine c_seq (fun _ hK2 => ?_); refine c_region ?_; refine s_makeFunc H wn rfl rfl ?_; clear H; intro a H; refine s_assign H wn rfl rfl ?_; clear H; intro a H; refine wl_nil ?_; refine hK2 _ _ ?_; clear hK2; refine c_ret ?_; obtain ⟨G2, hm2, hb1, H⟩ := H.giveBox; refine (leave1 H Tryd.results55 (.cons (rv_tmp H rfl) .nil) ?_).1; exact H.hp.ret ⟨b1, rfl, clusters1_iter (by unfold gcell; rw [hb1]; rfl) hz⟩
/-- A string that the library holds for valid. -/
structure VOk (G0 : GH) (s : ByteArray) : Prop where
  h : ∀ (G : GH) (w0 : World), (∀ b o, G0 b = some o → G b = some o) → Hold G w0 → Calls Tryd.prog 54 #[.string s] w0 (Ret w0 G fun u G' => u = .bool true ∧ G = G')
theorem VOk.ascii {G0 : GH} {s : ByteArray} (hs : s.size ≤ 8) (ha : ∀ i (h : i < s.size), s[i].toNat < 128) : VOk G0 s := ⟨fun G w0 _ hG => valid_ascii G w0 hG s hs ha⟩
def bdS (s : ByteArray) : List Int := 0 :: (clS s).map fun x => (x.2.1 : Int)
theorem clG_len (size : Nat) : ∀ (l : List (Nat × Nat)) (u f st : Nat) (m : MacD), (clG size l u f st m).length ≤ l.length + 1
  | [], u, f, st, m => by rw [clG]; split <;> simp
  | x :: l, u, f, st, m => by
    have h1 := clG_len size l (u + 1) u x.1 (takeS m (clsOf gTab x.2)); have h2 := clG_len size l (u + 1) f st (takeS m (clsOf gTab x.2))
    rw [clG]; split <;> simp only [List.length_cons] at * <;> omega
theorem clS_len (s : ByteArray) : (clS s).length ≤ s.size + 1 := by
  have h1 := clG_len s.size (rnS s) 0 0 0 ⟨0, false, false, 0⟩; have h2 := rnF_len s s.size 0
  unfold clS; unfold rnS at *; omega
theorem num_cat (G : GH) : ∀ (B A : List Int), RepCat G 1 (A.map numDat) (A.map vi) → RepCat G 1 ((A ++ B).map numDat) ((A ++ B).map vi)
  | [], A, h => by rw [List.append_nil]; exact h
  | x :: B, A, h => by
    have h2 := h.snoc (num_row G x) rfl; have h3 := num_cat G B (A ++ [x]) (by simpa using h2)
    simpa using h3
theorem nums_cat (G : GH) (A : List Int) : RepCat G 1 (A.map numDat) (A.map vi) := num_cat G A [] RepCat.nil
theorem bounds_spec {G0 : GH} (G : GH) (w0 : World) (hG : Hold G w0) (h0 : ∀ b o, G0 b = some o → G b = some o) (s : ByteArray) (hz : s.size ≤ 1073741824) (hv : VOk G0 s) :
    Calls Tryd.prog 43 #[.string s] w0 (Ret w0 G fun u G' => ∃ x, u = .tuple #[x, vi 0] ∧ RepV G' (.sl 1 ((bdS s).map numDat)) x) := by
  have hcl := clS_len s; have hml : maxLen = 9223372036854775807 := rfl; refine enter (N := 20) (T := [(0, _)]) (F := fun k => k < w0.heap.size) (L := []) Tryd.func43 rfl Tryd.ntmps43 rfl rfl hG (fun _ h => h) (fun _ h => by cases h) (fun _ h => by cases h) (fun _ h => by cases h) List.Pairwise.nil ?_; intro a H; refine c_seq (fun _ hK1 => ?_); refine c_region ?_; (iterate 2 refine s_assign H wn rfl rfl ?_; clear H; intro a H); refine wl_nil ?_; refine hK1 _ _ ?_; clear hK1; refine c_seq (fun _ hK2 => ?_); refine c_seq (fun _ hK3 => ?_); refine c_region ?_; refine s_move H wn rfl rfl ?_; clear H; intro a H; refine s_call en54gcl H wn rfl (hv.h _ _ h0 H.hp.ro) rfl ?_; clear H; rintro v7 _ a w ⟨rfl, rfl⟩ - H; refine s_not H wn rfl rfl ?_; clear H; intro a H; refine wl_nil ?_; refine hK3 _ _ ?_; clear hK3; refine c_cond H rfl ?_ ?_
  · intro h8
    try have p8 := of_decide_eq_true h8
    exact absurd h8 (by decide)
  intro h8
  try have p8 := of_decide_eq_false h8
  refine c_skip ?_; refine hK2 _ _ ?_; clear hK2; refine c_seq (fun _ hK4 => ?_); refine c_region ?_; refine s_buildSlice un32gcl ty3gcl [_] [_] H wn rfl rfl rfl rfl rfl (by intro i q h; match i, h with | 0, h => exact h | n + 1, h => simp at h) rfl rfl ?_; clear H; intro b9 a w hb9 H; refine s_alloc ty32gcl H wn rfl ?_; clear H; intro b4 a w hb4 H; refine s_store ty32gcl 0 (vs := [_]) _ H wn rfl rfl rfl rfl rfl rfl rfl rfl ?_; clear H; intro w H; dsimp only [List.set, setRow] at H; refine wl_nil ?_; refine hK4 _ _ ?_; clear hK4; refine c_seq (fun _ hK5 => ?_); refine c_seq (fun _ hK6 => ?_); refine c_region ?_; refine s_move H wn rfl rfl ?_; clear H; intro a H; refine s_call en55gcl H wn rfl (gclusters_spec _ _ H.hp.ro s hz) rfl ?_; clear H; rintro v11 G11 a w ⟨bd, rfl, hit⟩ hm11 H; refine wl_nil ?_; refine hK6 _ _ ?_; clear hK6; refine c_block ?_; skip; refine c_rangeJ (ι := Value × List Value × OL) (κ := Empty) (Lc := []) (fun (k : Nat) (gh : Value × List Value × OL) => [(b4, .cells #[gh.1] 32 (0, 0))]) (fun (k : Nat) (gh : Value × List Value × OL) => gh.2.2) (fun (k : Nat) (gh : Value × List Value × OL) (g : GH) => IsRow 3 1 gh.1 (k + 1) gh.2.1 gh.2.2 ∧ gh.2.1 = ((bdS s).take (k + 1)).map vi) (fun x => x.elim) (fun x => x.elim) (fun x => x.elim) (fun x => x.elim) ((.slice (some ⟨b9, 0, none⟩) 1 1, [vi 0], [(b9, .cells #[vi 0] 3 (0, 0))])) (by exact H) rfl en63gcl (hit) (fun _ _ h => h) rfl (fun k args g h => by obtain ⟨_, rfl⟩ := cl_at h; rfl) (fun k i G G' hm h => h) (fun x => x.elim) (⟨IsRow.all rfl (by decide), rfl⟩) ?_ ?_ ?_
  · clear H; intro l5 rdy bsy bk k args gh G5 w5 F5 B5 a hk5 hm5 hI hbeg5 hnext5 hstop5 H; obtain ⟨v, xs, Lo⟩ := gh; dsimp only at hI H; obtain ⟨hk, rfl⟩ := cl_at hk5; dsimp only [asg, List.cons_append, List.nil_append] at H; obtain ⟨hrw, hxs⟩ := hI; refine c_region ?_; refine s_alloc ty114gcl H wn rfl ?_; clear H; intro b5 a w hb5 H; refine s_store ty114gcl 0 (vs := [_, _]) _ H wn rfl rfl rfl rfl rfl rfl rfl rfl ?_; clear H; intro w H; dsimp only [List.set, setRow] at H; refine wl_nil ?_; refine hbeg5 _ _ _ _ _ _ (by exact H.pickT (Pl := [_, _, _]) (Pl' := [_, _, _]) [1, 0, 2] (by decide) rfl) ?_; clear H; intro w H; refine c_block ?_; refine c_region ?_; refine s_load ty32gcl H wn rfl (H.hp.ocell 2 rfl rfl) rfl ?_; clear H; intro a H; refine s_indexArr un114gcl ty3gcl 1 H wn rfl rfl rfl (by decide) rfl ?_; clear H; intro a H; refine s_load ty3gcl H wn rfl (H.hp.ocell 1 rfl rfl) rfl ?_; clear H; intro a H; refine s_buildSlice un32gcl ty3gcl [_] [_] H wn rfl rfl rfl rfl rfl (by intro i q h; match i, h with | 0, h => exact h | n + 1, h => simp at h) rfl rfl ?_; clear H; intro b17 a w hb17 H; have H := St.un (A := [_, _, _, _]) H; refine s_append (Li := [_, _, _, _] ++ bk) (Lo := Lo) (news := [vi (clS s)[k].2.1]) un32gcl ty3gcl rfl rfl H wn rfl rfl hrw rfl (H.hp.ocells 0 rfl rfl) rfl (by omega) (by omega) rfl ?_; clear H; intro v18 Lo18 a w hrw18 H; have H := H.assoc; dsimp only [List.cons_append, List.nil_append] at H; obtain ⟨vA18, vc18, e18, -, -⟩ := hrw18.shape; subst e18; refine s_store ty32gcl 3 (vs := [_]) _ H wn rfl rfl rfl rfl rfl rfl rfl rfl ?_; clear H; intro w H; dsimp only [List.set, setRow] at H; refine wl_nil ?_; refine hnext5 ((.slice vA18 (k + 1 + 1) vc18, xs ++ [vi (clS s)[k].2.1], Lo18)) _ _ _ _ _ (by exact H.pickT (Pl := [_, _, _, _]) (Pl' := [_, _]) [1, 3] (by decide) rfl) ?_; exact ⟨hrw18, by rw [hxs, List.take_succ_eq_append_getElem (i := k + 1) (by simp [bdS]; omega), List.map_append]; simp [bdS]⟩
  · clear H; intro Dk5 gh Gd5 a w hm5 hI H; obtain ⟨v, xs, Lo⟩ := gh; dsimp only at hI H; dsimp only [List.cons_append, List.nil_append, List.append_nil] at H; obtain ⟨hrw, hxs⟩ := hI; refine hK5 _ _ ?_; clear hK5; refine c_seq (fun _ hK7 => ?_); refine c_region ?_; refine s_load ty32gcl H wn rfl (H.hp.ocell 1 rfl rfl) rfl ?_; clear H; intro a H; (iterate 2 refine s_assign H wn rfl rfl ?_; clear H; intro a H); refine wl_nil ?_; refine hK7 _ _ ?_; clear hK7; refine c_ret ?_; rw [List.length_map] at hrw hxs; obtain ⟨Gr, hmr, hrep, H⟩ := St.giveRow (Li := [_, _]) (Lo := Lo) H hrw (rows := (bdS s).map numDat) (by simp [bdS]) (by rw [hxs, List.take_of_length_le (by simp [bdS])]; exact nums_cat _ _); refine (leaveM H 0 rfl ?_).1; clear H; intro a w H; dsimp only [List.eraseIdx_cons_succ, List.eraseIdx_cons_zero] at H; refine (leaveT H Tryd.results43 (.cons (rv_tmp H rfl) (.cons (rv_tmp H rfl) .nil)) ?_).1
    first
      | exact H.hp.ret ⟨_, rfl, hrep⟩
  intro Dk x; exact x.elim
end Go.Proofs.YtpmcdlhhfbobfaaDoor
