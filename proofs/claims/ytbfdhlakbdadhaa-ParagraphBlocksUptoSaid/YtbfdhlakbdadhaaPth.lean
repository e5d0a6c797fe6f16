/-
  Package position: Path, Lift, Intersect.
-/
import Derived.Test.YtbfdhlakbdadhaaPlr
namespace Go.Proofs.Ytbfdhlakbdadhaa
open Go.RowKit
theorem un69pth : Try.prog.underlying 69 = some (.slice 66) := by kernel_rfl
theorem ty66pth : Ty Try.prog 66 2 16 [.int .i64 0, .int .i64 0] true := ⟨by kernel_rfl, by kernel_rfl⟩
theorem ty62pth : Ty Try.prog 62 11 232 [.slice none 0 0, .slice none 0 0, .int .i64 0, .int .i64 0, .slice none 0 0, .slice none 0 0, .slice none 0 0, .slice none 0 0, .slice none 0 0, .slice none 0 0, .slice none 0 0] true := ⟨by kernel_rfl, by kernel_rfl⟩
theorem en35pth : ∀ args w, (callFunc 35 args).run Try.prog w = .ok (.enter 35 args) w := enters Try.func35 rfl (by kernel_rfl)
theorem en36pth : ∀ args w, (callFunc 36 args).run Try.prog w = .ok (.enter 36 args) w := enters Try.func36 rfl (by kernel_rfl)
theorem fd66_0pth : Fld Try.prog 66 0 0 := ⟨by kernel_rfl⟩
theorem ty3pth : Ty Try.prog 3 1 8 [.int .i64 0] false := ⟨by kernel_rfl, by kernel_rfl⟩
theorem en37pth : ∀ args w, (callFunc 37 args).run Try.prog w = .ok (.enter 37 args) w := enters Try.func37 rfl (by kernel_rfl)
theorem en33pth : ∀ args w, (callFunc 33 args).run Try.prog w = .ok (.enter 33 args) w := enters Try.func33 rfl (by kernel_rfl)
theorem fd66_1pth : Fld Try.prog 66 1 1 := ⟨by kernel_rfl⟩
theorem en20pth : ∀ args w, (callFunc 20 args).run Try.prog w = .ok (.enter 20 args) w := enters Try.func20 rfl (by kernel_rfl)
theorem ty23pth : Ty Try.prog 23 3 24 [.int .i64 0, .int .i64 0, .int .i64 0] true := ⟨by kernel_rfl, by kernel_rfl⟩
theorem fd23_0pth : Fld Try.prog 23 0 0 := ⟨by kernel_rfl⟩
theorem fd23_1pth : Fld Try.prog 23 1 1 := ⟨by kernel_rfl⟩
theorem fd23_2pth : Fld Try.prog 23 2 2 := ⟨by kernel_rfl⟩
theorem sr23pth : Srt Try.prog 23 [(0, 1), (1, 1), (2, 1)] [.int .i64 0, .int .i64 0, .int .i64 0] := ⟨by kernel_rfl, by kernel_rfl⟩
/-- The way from a flow to the body, as far as a number of steps leads. -/
def pathN (l : List ItemD) : Nat → Int → Option (Option (List (Int × Int)))
  | 0, _ => none
  | n + 1, f => if f = 0 then some (some []) else match placeS l f with
    | none => some none
    | some p => match pathN l n p.1 with
      | none => none
      | some r => some (r.map (p :: ·))
def posD (p : Int × Int) : List Dat := [li p.1, li p.2]
/-- A slice of at most one element is its own reverse. -/
theorem reverse_one (G : GH) (w0 : World) (hG : Hold G w0) (A : Option Addr) (n c : Nat) (hn : n ≤ 1) :
    Calls Try.prog 37 #[.slice A n c] w0 (Ret w0 G fun _ G' => G = G') := by
  refine enter (N := 28) (T := [(0, _)]) (F := fun k => k < w0.heap.size) (L := []) Try.func37 rfl Try.ntmps37 rfl rfl hG (fun _ h => h) (fun _ h => by cases h) (fun _ h => by cases h) (fun _ h => by cases h) List.Pairwise.nil ?_
  intro a H
  refine c_seq (fun _ hK1 => ?_)
  refine c_region ?_
  refine s_move H wn rfl rfl ?_; clear H; intro a H
  refine s_len un69pth H wn rfl rfl ?_; clear H; intro a H
  refine s_sub _ H wn rfl rfl rfl (by omega) (by omega) rfl ?_; clear H; intro a H
  refine s_assign H wn rfl rfl ?_; clear H; intro a H
  refine s_assign H wn rfl rfl ?_; clear H; intro a H
  refine wl_nil ?_
  refine hK1 _ _ ?_; clear hK1
  refine c_block ?_
  skip
  refine c_loopS (ι := Unit) (Tc := [(0, _)]) (Lc := []) (fun (gh : Unit) => [(2, vi 0), (3, vi ((n : Int) - 1))]) (fun (gh : Unit) => []) (fun (gh : Unit) => G) (fun (gh : Unit) => True) (fun (gh : Unit) => 0) (()) (by exact (H).sub ⟨rfl, rfl, rfl, trivial⟩) ?_ ?_
  · trivial
  · clear H; intro gh a w hI H
    obtain ⟨u, hgh⟩ : ∃ x, x = gh := ⟨_, rfl⟩; subst hgh
    skip
    dsimp only [List.cons_append, List.nil_append, List.append_nil] at H
    refine c_seq (fun _ hK2 => ?_)
    refine c_seq (fun _ hK3 => ?_)
    refine c_region ?_
    refine s_move H wn rfl rfl ?_; clear H; intro a H
    refine s_move H wn rfl rfl ?_; clear H; intro a H
    refine s_cmp H wn rfl rfl rfl rfl ?_; clear H; intro a H
    refine wl_nil ?_
    refine hK3 _ _ ?_; clear hK3
    refine c_cond H rfl ?_ ?_
    · intro h9
      try have p9 := of_decide_eq_true h9
      exact absurd p9 (by omega)
    · intro h9
      try have p9 := of_decide_eq_false h9
      refine c_exit ?_
      refine (leave0 H Try.results37 ?_).2
      exact H.hp.ret rfl
theorem path_spec (G : GH) (w0 : World) (hG : Hold G w0) (D : DocV) (l : List ItemD) (flow : Int) (hv : RepV G (.sl 11 (l.map ItemD.dat)) (sl3 D.f)) (hz : zItems l ≤ 4294967296) (n : Nat) (hn : n ≤ 4294967296) (res : Option (List (Int × Int))) (hp : pathN l n flow = some res) (h1 : ∀ ps, res = some ps → ps.length ≤ 1) :
    Calls Try.prog 20 #[D.val, vi flow] w0 (Ret w0 G fun u G' => ∃ v, u = .tuple #[v, vi (if (flowOf l flow).isSome = true then (if res.isSome = true then 0 else 8) else 8)] ∧ RepV G' (.sl 2 ((if (flowOf l flow).isSome = true then res.getD [] else []).map posD)) v) := by
  have hml : 4294967297 ≤ maxLen := by decide
  refine enter (N := 38) (T := [(0, _), (1, _)]) (F := fun k => k < w0.heap.size) (L := []) Try.func20 rfl Try.ntmps20 rfl rfl hG (fun _ h => h) (fun _ h => by cases h) (fun _ h => by cases h) (fun _ h => by cases h) List.Pairwise.nil ?_
  intro a H
  refine c_seq (fun _ hK1 => ?_)
  refine c_region ?_
  refine s_box (cs := [_, _, _, _, _, _, _, _, _, _, _]) H wn rfl rfl rfl ?_; clear H; intro b2 a w hb2 H
  refine s_assign H wn rfl rfl ?_; clear H; intro a H
  refine s_assign H wn rfl rfl ?_; clear H; intro a H
  refine wl_nil ?_
  refine hK1 _ _ ?_; clear hK1
  refine c_seq (fun _ hK2 => ?_)
  refine c_seq (fun _ hK3 => ?_)
  refine c_region ?_
  refine s_loada ty62pth (cs := [_, _, _, _, _, _, _, _, _, _, _]) H wn rfl rfl (H.hp.ocells 0 rfl rfl) rfl ?_; clear H; intro a H
  refine s_move H wn rfl rfl ?_; clear H; intro a H
  refine s_call en35pth H wn rfl (flow_spec _ _ H.hp.ro D l flow hv hz) rfl ?_; clear H
  rintro v14 G14 a w ⟨v, rfl, hr⟩ hm14 H
  refine s_move H wn rfl rfl ?_; clear H; intro a H
  refine s_extract H wn rfl rfl rfl ?_; clear H; intro a H
  refine s_extract H wn rfl rfl rfl ?_; clear H; intro a H
  refine s_assign H wn rfl rfl ?_; clear H; intro a H
  refine s_assign H wn rfl rfl ?_; clear H; intro a H
  refine wl_nil ?_
  refine hK3 _ _ ?_; clear hK3
  refine c_seq (fun _ hK4 => ?_)
  refine c_region ?_
  refine s_move H wn rfl rfl ?_; clear H; intro a H
  refine s_not H wn rfl rfl ?_; clear H; intro a H
  refine wl_nil ?_
  refine hK4 _ _ ?_; clear hK4
  refine c_cond H rfl ?_ ?_
  · intro h18
    try have p18 := of_decide_eq_true h18
    refine c_seq (fun _ hK5 => ?_)
    refine c_region ?_
    refine s_assign H wn rfl rfl ?_; clear H; intro a H
    refine s_assign H wn rfl rfl ?_; clear H; intro a H
    refine wl_nil ?_
    refine hK5 _ _ ?_; clear hK5
    refine c_ret ?_
    refine (leaveT H Try.results20 (.cons (rv_tmp H rfl) (.cons (rv_tmp H rfl) .nil)) ?_).1
    exact H.hp.ret ⟨_, by rw [if_neg (by simpa using h18)], by rw [if_neg (by simpa using h18)]; exact RepV.nil_ rfl (by decide)⟩
  · intro h18
    try have p18 := of_decide_eq_false h18
    refine c_skip ?_
    refine hK2 _ _ ?_; clear hK2
    refine c_seq (fun _ hK6 => ?_)
    refine c_region ?_
    refine s_assign H wn rfl rfl ?_; clear H; intro a H
    refine wl_nil ?_
    refine hK6 _ _ ?_; clear hK6
    refine c_seq (fun _ hK7 => ?_)
    refine c_block ?_
    skip
    refine c_loopS (ι := Nat × Int × List (Int × Int) × Value × List Value × OL × GH) (Tc := [(2, _)]) (Lc := [(_, _)]) (fun (gh : Nat × Int × List (Int × Int) × Value × List Value × OL × GH) => [(1, vi gh.2.1), (8, gh.2.2.2.1)]) (fun (gh : Nat × Int × List (Int × Int) × Value × List Value × OL × GH) => [] ++ gh.2.2.2.2.2.1) (fun (gh : Nat × Int × List (Int × Int) × Value × List Value × OL × GH) => gh.2.2.2.2.2.2) (fun (gh : Nat × Int × List (Int × Int) × Value × List Value × OL × GH) => (∀ b o, G14 b = some o → gh.2.2.2.2.2.2 b = some o) ∧ IsRow 66 2 gh.2.2.2.1 gh.2.2.1.length gh.2.2.2.2.1 gh.2.2.2.2.2.1 ∧ RepCat gh.2.2.2.2.2.2 2 (gh.2.2.1.map posD) gh.2.2.2.2.1 ∧ (∃ r, pathN l gh.1 gh.2.1 = some r ∧ res = r.map (gh.2.2.1 ++ ·)) ∧ gh.1 + gh.2.2.1.length ≤ n) (fun (gh : Nat × Int × List (Int × Int) × Value × List Value × OL × GH) => gh.1) ((n, flow, [], .slice none 0 0, [], [], G14)) (by exact (H).sub ⟨rfl, rfl, rfl, trivial⟩) ?_ ?_
    · exact ⟨fun _ _ h => h, IsRow.nil, RepCat.nil, ⟨res, hp, by cases res <;> simp⟩, by simp⟩
    · clear H; intro gh a w hI H
      obtain ⟨k, f, ps, v8, xs, Lo, g⟩ := gh; dsimp only at hI H
      obtain ⟨hgm, hrw, hcat, ⟨r, hr1, hr2⟩, hkn⟩ := hI
      obtain ⟨k2, rfl⟩ : ∃ k2, k = k2 + 1 := by cases k with | zero => simp [pathN] at hr1 | succ k => exact ⟨k, rfl⟩
      rw [pathN] at hr1
      dsimp only [List.cons_append, List.nil_append, List.append_nil] at H
      refine c_seq (fun _ hK8 => ?_)
      refine c_seq (fun _ hK9 => ?_)
      refine c_region ?_
      refine s_move H wn rfl rfl ?_; clear H; intro a H
      refine s_cmp H wn rfl rfl rfl rfl ?_; clear H; intro a H
      refine wl_nil ?_
      refine hK9 _ _ ?_; clear hK9
      refine c_cond H rfl ?_ ?_
      · intro h20
        try have p20 := of_decide_eq_true h20
        refine c_skip ?_
        refine hK8 _ _ ?_; clear hK8
        refine c_block ?_
        refine c_seq (fun _ hK10 => ?_)
        refine c_region ?_
        refine s_loada ty62pth (cs := [_, _, _, _, _, _, _, _, _, _, _]) H wn rfl rfl (H.hp.ocells 0 rfl rfl) rfl ?_; clear H; intro a H
        refine s_move H wn rfl rfl ?_; clear H; intro a H
        refine s_call en36pth H wn rfl (place_spec _ _ H.hp.ro D l f (hv.mono fun b o h => hgm b o (hm14 b o h)) hz) rfl ?_; clear H
        rintro v24 G24 a w rfl hm24 H
        refine s_move H wn rfl rfl ?_; clear H; intro a H
        refine s_extract H wn rfl rfl rfl ?_; clear H; intro a H
        refine s_extract H wn rfl rfl rfl ?_; clear H; intro a H
        refine s_alloc ty66pth H wn rfl ?_; clear H; intro b9 a w hb9 H
        refine s_store ty66pth 0 (vs := [_, _]) _ H wn rfl rfl rfl rfl rfl rfl rfl rfl ?_; clear H; intro w H; dsimp only [List.set, setRow] at H
        refine s_assign H wn rfl rfl ?_; clear H; intro a H
        refine wl_nil ?_
        refine hK10 _ _ ?_; clear hK10
        refine c_seq (fun _ hK11 => ?_)
        refine c_seq (fun _ hK12 => ?_)
        refine c_region ?_
        refine s_move H wn rfl rfl ?_; clear H; intro a H
        refine s_not H wn rfl rfl ?_; clear H; intro a H
        refine wl_nil ?_
        refine hK12 _ _ ?_; clear hK12
        refine c_cond H rfl ?_ ?_
        · intro h28
          try have p28 := of_decide_eq_true h28
          refine c_seq (fun _ hK13 => ?_)
          refine c_region ?_
          refine s_assign H wn rfl rfl ?_; clear H; intro a H
          refine s_assign H wn rfl rfl ?_; clear H; intro a H
          refine wl_nil ?_
          refine hK13 _ _ ?_; clear hK13
          refine c_ret ?_
          refine (leaveT H Try.results20 (.cons (rv_tmp H rfl) (.cons (rv_tmp H rfl) .nil)) ?_).1
          have hpn : placeS l f = none := by simpa using h28
          rw [if_neg p20, hpn] at hr1
          simp only [Option.some.injEq] at hr1
          subst hr1
          simp only [Option.map_none] at hr2
          exact H.hp.ret ⟨_, by rw [hr2]; split <;> rfl, by rw [hr2]; split <;> exact RepV.nil_ rfl (by decide)⟩
        · intro h28
          try have p28 := of_decide_eq_false h28
          refine c_skip ?_
          refine hK11 _ _ ?_; clear hK11
          refine c_seq (fun _ hK14 => ?_)
          refine c_region ?_
          refine s_move H wn rfl rfl ?_; clear H; intro a H
          refine s_loada ty66pth (cs := [_, _]) H wn rfl rfl (H.hp.ocells 0 rfl rfl) rfl ?_; clear H; intro a H
          refine s_buildSlice un69pth ty66pth [_, _] [_, _] H wn rfl rfl rfl rfl rfl (by intro i q h; match i, h with | 0, h => exact h | n + 1, h => simp at h) rfl rfl ?_; clear H; intro b31 a w hb31 H
          refine s_append (Li := [_, _, _]) (Lo := Lo) (news := [vi ((placeS l f).getD (0, 0)).1, vi ((placeS l f).getD (0, 0)).2]) un69pth ty66pth rfl rfl H wn rfl rfl hrw rfl (H.hp.ocells 0 rfl rfl) rfl (by omega) (by omega) rfl ?_; clear H; intro v32 Lo32 a w hrw32 H
          refine s_assign H wn rfl rfl ?_; clear H; intro a H
          refine wl_nil ?_
          refine hK14 _ _ ?_; clear hK14
          refine c_region ?_
          refine s_field fd66_0pth H wn rfl rfl ?_; clear H; intro a H
          refine s_load ty3pth H wn rfl (H.hp.ocell 1 rfl rfl) rfl ?_; clear H; intro a H
          refine s_assign H wn rfl rfl ?_; clear H; intro a H
          refine wl_nil ?_
          refine loop_end ((k2, ((placeS l f).getD (0, 0)).1, ps ++ [(placeS l f).getD (0, 0)], v32, xs ++ [vi ((placeS l f).getD (0, 0)).1, vi ((placeS l f).getD (0, 0)).2], Lo32, G24)) (by exact (H.pickT (Pl := [_, _, _]) (Pl' := [_]) [2] (by decide) rfl).sub ⟨rfl, rfl, rfl, trivial⟩) ?_ ?_
          · try dsimp only
            refine ⟨fun b o h => hm24 b o (hgm b o h), by simpa using hrw32, ?_, ?_, by simp; omega⟩
            · rw [List.map_append]
              exact (hcat.mono hm24).snoc ⟨_, _, rfl, ⟨rfl, rfl⟩, _, _, rfl, ⟨rfl, rfl⟩, rfl⟩ rfl
            · obtain ⟨p, hpp⟩ := Option.isSome_iff_exists.1 (by simpa using h28 : (placeS l f).isSome = true)
              rw [hpp] at hr1 ⊢
              simp only [if_neg p20] at hr1
              cases hq : pathN l k2 p.1 with
              | none => rw [hq] at hr1; cases hr1
              | some r2 => rw [hq] at hr1; simp only [Option.some.injEq] at hr1; subst hr1; exact ⟨r2, by simpa using hq, by rw [hr2]; cases r2 <;> simp⟩
          · first | omega | (dsimp only; omega)
      · intro h20
        try have p20 := of_decide_eq_false h20
        have hf0 : f = 0 := Decidable.not_not.1 p20
        rw [if_pos hf0] at hr1
        simp only [Option.some.injEq] at hr1
        subst hr1
        simp only [Option.map_some, List.append_nil] at hr2
        obtain ⟨Gr, hmr, hrep, H⟩ := St.giveRow (Li := [_]) H hrw (rows := ps.map posD) (by simp) hcat
        obtain ⟨vA, vn, vc, rfl⟩ := hrep.form
        have hvn := hrep.len; rw [List.length_map] at hvn
        have hps1 := h1 ps hr2
        refine c_exit ?_
        refine hK7 _ _ ?_; clear hK7
        refine c_seq (fun _ hK15 => ?_)
        refine c_region ?_
        refine s_move H wn rfl rfl ?_; clear H; intro a H
        refine s_call en37pth H wn rfl (reverse_one _ _ H.hp.ro _ _ _ (by omega)) rfl ?_; clear H
        rintro v36 G36 a w rfl hm36 H
        refine wl_nil ?_
        refine hK15 _ _ ?_; clear hK15
        refine c_seq (fun _ hK16 => ?_)
        refine c_region ?_
        refine s_move H wn rfl rfl ?_; clear H; intro a H
        refine s_assign H wn rfl rfl ?_; clear H; intro a H
        refine s_assign H wn rfl rfl ?_; clear H; intro a H
        refine wl_nil ?_
        refine hK16 _ _ ?_; clear hK16
        refine c_ret ?_
        refine (leaveT H Try.results20 (.cons (rv_tmp H rfl) (.cons (rv_tmp H rfl) .nil)) ?_).1
        have hfs : (flowOf l flow).isSome = true := by simpa using h18
        exact H.hp.ret ⟨_, by rw [if_pos hfs, hr2]; rfl, by rw [if_pos hfs, hr2]; exact hrep⟩
theorem posD_row {G : GH} {p : Int × Int} {cs : List Value} (h : RepRow G (posD p) cs) : cs = [vi p.1, vi p.2] := by
  simp only [posD, RepRow, RepV] at h
  obtain ⟨v1, _, rfl, ⟨rfl, -⟩, v2, _, rfl, ⟨rfl, -⟩, rfl⟩ := h
  rfl
/-- What Lift gives, from the way to the body. -/
def liftS (l : List ItemD) (f t flow : Int) (ps : List (Int × Int)) : Option Int :=
  if chkR l f t t = 0 then if f = flow then some t else (ps.find? fun q => decide (q.1 = flow)).map (·.2) else none
theorem lift_spec (G : GH) (w0 : World) (hG : Hold G w0) (D : DocV) (l : List ItemD) (f t flow : Int) (hv : RepV G (.sl 11 (l.map ItemD.dat)) (sl3 D.f)) (hz : zItems l ≤ 4294967296) (n : Nat) (hn : n ≤ 4294967296) (res : Option (List (Int × Int))) (hp : pathN l n f = some res) (h1 : ∀ ps, res = some ps → ps.length ≤ 1) :
    Calls Try.prog 21 #[D.val, .agg #[vi f, vi t], vi flow] w0 (Ret w0 G fun u G' => u = .tuple #[vi ((liftS l f t flow (if (flowOf l f).isSome = true then res.getD [] else [])).getD 0), .bool (liftS l f t flow (if (flowOf l f).isSome = true then res.getD [] else [])).isSome]) := by
  have hps : (if (flowOf l f).isSome = true then res.getD [] else []).length ≤ 1 := by
    split
    · cases res with
      | none => simp
      | some ps => exact h1 ps rfl
    · simp
  obtain ⟨ps, hpe⟩ : ∃ ps, ps = (if (flowOf l f).isSome = true then res.getD [] else []) := ⟨_, rfl⟩
  rw [← hpe] at hps ⊢
  refine enter (N := 42) (T := [(0, _), (1, _), (2, _)]) (F := fun k => k < w0.heap.size) (L := []) Try.func21 rfl Try.ntmps21 rfl rfl hG (fun _ h => h) (fun _ h => by cases h) (fun _ h => by cases h) (fun _ h => by cases h) List.Pairwise.nil ?_
  intro a H
  refine c_seq (fun _ hK1 => ?_)
  refine c_region ?_
  refine s_box (cs := [_, _, _, _, _, _, _, _, _, _, _]) H wn rfl rfl rfl ?_; clear H; intro b3 a w hb3 H
  refine s_box (cs := [_, _]) H wn rfl rfl rfl ?_; clear H; intro b4 a w hb4 H
  refine s_assign H wn rfl rfl ?_; clear H; intro a H
  refine s_assign H wn rfl rfl ?_; clear H; intro a H
  refine wl_nil ?_
  refine hK1 _ _ ?_; clear hK1
  refine c_seq (fun _ hK2 => ?_)
  refine c_seq (fun _ hK3 => ?_)
  refine c_region ?_
  refine s_loada ty62pth (cs := [_, _, _, _, _, _, _, _, _, _, _]) H wn rfl rfl (H.hp.ocells 1 rfl rfl) rfl ?_; clear H; intro a H
  refine s_loada ty66pth (cs := [_, _]) H wn rfl rfl (H.hp.ocells 0 rfl rfl) rfl ?_; clear H; intro a H
  refine s_call en33pth H wn rfl (check_spec _ _ H.hp.ro D l f t hv hz) rfl ?_; clear H
  rintro v14 G14 a w rfl hm14 H
  refine s_cmp H wn rfl rfl rfl rfl ?_; clear H; intro a H
  refine wl_nil ?_
  refine hK3 _ _ ?_; clear hK3
  refine c_cond H rfl ?_ ?_
  · intro h15
    try have p15 := of_decide_eq_true h15
    refine c_seq (fun _ hK4 => ?_)
    refine c_region ?_
    refine s_assign H wn rfl rfl ?_; clear H; intro a H
    refine s_assign H wn rfl rfl ?_; clear H; intro a H
    refine wl_nil ?_
    refine hK4 _ _ ?_; clear hK4
    refine c_ret ?_
    refine (leaveT H Try.results21 (.cons (rv_tmp H rfl) (.cons (rv_tmp H rfl) .nil)) ?_).1
    exact H.hp.ret (by rw [liftS, if_neg p15]; rfl)
  · intro h15
    try have p15 := of_decide_eq_false h15
    refine c_skip ?_
    refine hK2 _ _ ?_; clear hK2
    refine c_seq (fun _ hK5 => ?_)
    refine c_seq (fun _ hK6 => ?_)
    refine c_region ?_
    refine s_field fd66_0pth H wn rfl rfl ?_; clear H; intro a H
    refine s_load ty3pth H wn rfl (H.hp.ocell 0 rfl rfl) rfl ?_; clear H; intro a H
    refine s_move H wn rfl rfl ?_; clear H; intro a H
    refine s_cmp H wn rfl rfl rfl rfl ?_; clear H; intro a H
    refine wl_nil ?_
    refine hK6 _ _ ?_; clear hK6
    refine c_cond H rfl ?_ ?_
    · intro h19
      try have p19 := of_decide_eq_true h19
      refine c_seq (fun _ hK7 => ?_)
      refine c_region ?_
      refine s_field fd66_1pth H wn rfl rfl ?_; clear H; intro a H
      refine s_load ty3pth H wn rfl (H.hp.ocell 0 rfl rfl) rfl ?_; clear H; intro a H
      refine s_assign H wn rfl rfl ?_; clear H; intro a H
      refine s_assign H wn rfl rfl ?_; clear H; intro a H
      refine wl_nil ?_
      refine hK7 _ _ ?_; clear hK7
      refine c_ret ?_
      refine (leaveT H Try.results21 (.cons (rv_tmp H rfl) (.cons (rv_tmp H rfl) .nil)) ?_).1
      exact H.hp.ret (by rw [liftS, if_pos (by omega), if_pos p19]; rfl)
    · intro h19
      try have p19 := of_decide_eq_false h19
      refine c_skip ?_
      refine hK5 _ _ ?_; clear hK5
      refine c_seq (fun _ hK8 => ?_)
      refine c_region ?_
      refine s_loada ty62pth (cs := [_, _, _, _, _, _, _, _, _, _, _]) H wn rfl rfl (H.hp.ocells 1 rfl rfl) rfl ?_; clear H; intro a H
      refine s_field fd66_0pth H wn rfl rfl ?_; clear H; intro a H
      refine s_load ty3pth H wn rfl (H.hp.ocell 0 rfl rfl) rfl ?_; clear H; intro a H
      refine s_call en20pth H wn rfl (path_spec _ _ H.hp.ro D l f (hv.mono hm14) hz n hn res hp h1) rfl ?_; clear H
      rintro v26 G26 a w ⟨v, rfl, hrep⟩ hm26 H
      rw [← hpe] at hrep
      obtain ⟨vA, vn, vc, rfl⟩ := hrep.form
      have hvn := hrep.len; rw [List.length_map] at hvn
      refine s_move H wn rfl rfl ?_; clear H; intro a H
      refine s_extract H wn rfl rfl rfl ?_; clear H; intro a H
      refine s_extract H wn rfl rfl rfl ?_; clear H; intro a H
      refine s_assign H wn rfl rfl ?_; clear H; intro a H
      refine s_assign H wn rfl rfl ?_; clear H; intro a H
      refine wl_nil ?_
      refine hK8 _ _ ?_; clear hK8
      refine c_seq (fun _ hK9 => ?_)
      refine c_seq (fun _ hK10 => ?_)
      refine c_region ?_
      refine s_move H wn rfl rfl ?_; clear H; intro a H
      refine s_len un69pth H wn rfl rfl ?_; clear H; intro a H
      refine s_move H wn rfl rfl ?_; clear H; intro a H
      refine wl_nil ?_
      refine hK10 _ _ ?_; clear hK10
      refine c_block ?_
      skip
      refine c_loopS (ι := Nat) (Tc := [(2, _), (29, _), (30, _)]) (Lc := [(_, _), (_, _)]) (fun (gh : Nat) => [(31, vi gh)]) (fun (gh : Nat) => []) (fun (gh : Nat) => G26) (fun (gh : Nat) => gh ≤ ps.length ∧ (ps.take gh).find? (fun q => decide (q.1 = flow)) = none) (fun (gh : Nat) => ps.length - gh) (0) (by exact (H).sub ⟨rfl, rfl, rfl, rfl, trivial⟩) ?_ ?_
      · exact ⟨by omega, rfl⟩
      · clear H; intro gh a w hI H
        obtain ⟨k, hgh⟩ : ∃ x, x = gh := ⟨_, rfl⟩; subst hgh
        obtain ⟨hk, hno⟩ := hI
        dsimp only [List.cons_append, List.nil_append, List.append_nil] at H
        refine c_seq (fun _ hK11 => ?_)
        refine c_region ?_
        refine s_cmp H wn rfl rfl rfl rfl ?_; clear H; intro a H
        refine wl_nil ?_
        refine hK11 _ _ ?_; clear hK11
        refine c_seq (fun _ hK12 => ?_)
        refine c_cond H rfl ?_ ?_
        · intro h32
          try have p32 := of_decide_eq_true h32
          have hk2 : k < ps.length := by omega
          obtain ⟨b, o, cs, rfl, hcl, hrow, hr⟩ := hrep.at_ k (posD ps[k]) (by simp [hk2])
          obtain rfl := posD_row hr
          refine c_skip ?_
          refine hK12 _ _ ?_; clear hK12
          refine c_seq (fun _ hK13 => ?_)
          refine c_block ?_
          refine c_seq (fun _ hK14 => ?_)
          refine c_region ?_
          refine s_index un69pth ty66pth _ H wn rfl rfl rfl (by first | assumption | omega) rfl ?_; clear H; intro a H
          refine s_loada ty66pth (cs := [_, _]) H wn rfl rfl (fun j v hj => H.hp.gcell (hrow j v hj)) rfl ?_; clear H; intro a H
          refine s_alloc ty66pth H wn rfl ?_; clear H; intro b11 a w hb11 H
          refine s_store ty66pth 0 (vs := [_, _]) _ H wn rfl rfl rfl rfl rfl rfl rfl rfl ?_; clear H; intro w H; dsimp only [List.set, setRow] at H
          refine wl_nil ?_
          refine hK14 _ _ ?_; clear hK14
          refine c_seq (fun _ hK15 => ?_)
          refine c_region ?_
          refine s_field fd66_0pth H wn rfl rfl ?_; clear H; intro a H
          refine s_load ty3pth H wn rfl (H.hp.ocell 0 rfl rfl) rfl ?_; clear H; intro a H
          refine s_move H wn rfl rfl ?_; clear H; intro a H
          refine s_cmp H wn rfl rfl rfl rfl ?_; clear H; intro a H
          refine wl_nil ?_
          refine hK15 _ _ ?_; clear hK15
          refine c_cond H rfl ?_ ?_
          · intro h38
            try have p38 := of_decide_eq_true h38
            refine c_seq (fun _ hK16 => ?_)
            refine c_region ?_
            refine s_field fd66_1pth H wn rfl rfl ?_; clear H; intro a H
            refine s_load ty3pth H wn rfl (H.hp.ocell 0 rfl rfl) rfl ?_; clear H; intro a H
            refine s_assign H wn rfl rfl ?_; clear H; intro a H
            refine s_assign H wn rfl rfl ?_; clear H; intro a H
            refine wl_nil ?_
            refine hK16 _ _ ?_; clear hK16
            refine c_ret ?_
            refine (leaveT H Try.results21 (.cons (rv_tmp H rfl) (.cons (rv_tmp H rfl) .nil)) ?_).1
            exact H.hp.ret (by rw [liftS, if_pos (by omega), if_neg p19, find_stop hk2 hno h38]; rfl)
          · intro h38
            try have p38 := of_decide_eq_false h38
            refine c_skip ?_
            refine hK13 _ _ ?_; clear hK13
            refine c_region ?_
            refine s_add _ H wn rfl rfl rfl (by omega) (by omega) rfl ?_; clear H; intro a H
            refine s_move H wn rfl rfl ?_; clear H; intro a H
            refine wl_nil ?_
            refine loop_end ((k + 1)) (by exact (H.pickT (Pl := [_, _, _]) (Pl' := [_, _]) [1, 2] (by decide) rfl).sub ⟨rfl, rfl, rfl, rfl, trivial⟩) ?_ ?_
            · exact ⟨by omega, find_next hk2 hno h38⟩
            · first | omega | (dsimp only; omega)
        · intro h32
          try have p32 := of_decide_eq_false h32
          refine c_exit ?_
          refine hK9 _ _ ?_; clear hK9
          refine c_seq (fun _ hK17 => ?_)
          refine c_region ?_
          refine s_assign H wn rfl rfl ?_; clear H; intro a H
          refine s_assign H wn rfl rfl ?_; clear H; intro a H
          refine wl_nil ?_
          refine hK17 _ _ ?_; clear hK17
          refine c_ret ?_
          refine (leaveT H Try.results21 (.cons (rv_tmp H rfl) (.cons (rv_tmp H rfl) .nil)) ?_).1
          exact H.hp.ret (by rw [show ps.take k = ps from List.take_of_length_le (by omega)] at hno; rw [liftS, if_pos (by omega), if_neg p19, hno]; rfl)
/-- The units that two ranges have. -/
def meetS (a b : Int × Int × Int) : (Int × Int × Int) × Bool :=
  if a.1 ≠ b.1 ∨ min a.2.2 b.2.2 ≤ max a.2.1 b.2.1 then ((0, 0, 0), false) else ((a.1, max a.2.1 b.2.1, min a.2.2 b.2.2), true)
theorem intersect_spec (G : GH) (w0 : World) (hG : Hold G w0) (af afr ato bf bfr bto : Int) :
    Calls Try.prog 6 #[.agg #[vi af, vi afr, vi ato], .agg #[vi bf, vi bfr, vi bto]] w0 (Ret w0 G fun u G' => G = G' ∧ u = .tuple #[.agg #[vi (meetS (af, afr, ato) (bf, bfr, bto)).1.1, vi (meetS (af, afr, ato) (bf, bfr, bto)).1.2.1, vi (meetS (af, afr, ato) (bf, bfr, bto)).1.2.2], .bool (meetS (af, afr, ato) (bf, bfr, bto)).2]) := by
  refine enter (N := 34) (T := [(0, _), (1, _)]) (F := fun k => k < w0.heap.size) (L := []) Try.func6 rfl Try.ntmps6 rfl rfl hG (fun _ h => h) (fun _ h => by cases h) (fun _ h => by cases h) (fun _ h => by cases h) List.Pairwise.nil ?_
  intro a H
  refine c_seq (fun _ hK1 => ?_)
  refine c_region ?_
  refine s_box (cs := [_, _, _]) H wn rfl rfl rfl ?_; clear H; intro b2 a w hb2 H
  refine s_box (cs := [_, _, _]) H wn rfl rfl rfl ?_; clear H; intro b3 a w hb3 H
  refine s_alloc ty23pth H wn rfl ?_; clear H; intro b4 a w hb4 H
  refine s_assign H wn rfl rfl ?_; clear H; intro a H
  refine wl_nil ?_
  refine hK1 _ _ ?_; clear hK1
  refine c_seq (fun _ hK2 => ?_)
  refine c_region ?_
  refine s_field fd23_0pth H wn rfl rfl ?_; clear H; intro a H
  refine s_load ty3pth H wn rfl (H.hp.ocell 2 rfl rfl) rfl ?_; clear H; intro a H
  refine s_field fd23_1pth H wn rfl rfl ?_; clear H; intro a H
  refine s_load ty3pth H wn rfl (H.hp.ocell 2 rfl rfl) rfl ?_; clear H; intro a H
  refine s_field fd23_1pth H wn rfl rfl ?_; clear H; intro a H
  refine s_load ty3pth H wn rfl (H.hp.ocell 1 rfl rfl) rfl ?_; clear H; intro a H
  refine s_max H wn rfl rfl rfl ?_; clear H; intro a H
  refine s_field fd23_2pth H wn rfl rfl ?_; clear H; intro a H
  refine s_load ty3pth H wn rfl (H.hp.ocell 2 rfl rfl) rfl ?_; clear H; intro a H
  refine s_field fd23_2pth H wn rfl rfl ?_; clear H; intro a H
  refine s_load ty3pth H wn rfl (H.hp.ocell 1 rfl rfl) rfl ?_; clear H; intro a H
  refine s_min H wn rfl rfl rfl ?_; clear H; intro a H
  refine s_build sr23pth [_, _, _] H wn rfl rfl rfl rfl ?_; clear H; intro a H
  refine s_alloc ty23pth H wn rfl ?_; clear H; intro b6 a w hb6 H
  refine s_store ty23pth 0 (vs := [_, _, _]) _ H wn rfl rfl rfl rfl rfl rfl rfl rfl ?_; clear H; intro w H; dsimp only [List.set, setRow] at H
  refine wl_nil ?_
  refine hK2 _ _ ?_; clear hK2
  refine c_seq (fun _ hK3 => ?_)
  refine c_seq (fun _ hK4 => ?_)
  refine c_region ?_
  refine s_field fd23_0pth H wn rfl rfl ?_; clear H; intro a H
  refine s_load ty3pth H wn rfl (H.hp.ocell 3 rfl rfl) rfl ?_; clear H; intro a H
  refine s_field fd23_0pth H wn rfl rfl ?_; clear H; intro a H
  refine s_load ty3pth H wn rfl (H.hp.ocell 2 rfl rfl) rfl ?_; clear H; intro a H
  refine s_cmp H wn rfl rfl rfl rfl ?_; clear H; intro a H
  refine s_move H wn rfl rfl ?_; clear H; intro a H
  refine s_split H 25 rfl ?_ ?_
  · intro h25
    try have p25 := of_decide_eq_true h25
    refine s_skip H rfl rfl h25 rfl ?_; clear H; intro a H
    refine s_skip H rfl rfl h25 rfl ?_; clear H; intro a H
    refine s_skip H rfl rfl h25 rfl ?_; clear H; intro a H
    refine s_skip H rfl rfl h25 rfl ?_; clear H; intro a H
    refine s_skip H rfl rfl h25 rfl ?_; clear H; intro a H
    refine s_pick_t H wn rfl h25 rfl rfl ?_; clear H; intro a H
    refine wl_nil ?_
    refine hK4 _ _ ?_; clear hK4
    refine c_cond_t H rfl rfl ?_
    refine c_seq (fun _ hK5 => ?_)
    refine c_region ?_
    refine s_build sr23pth [_, _, _] H wn rfl rfl rfl rfl ?_; clear H; intro a H
    refine s_store ty23pth 1 (vs := [_, _, _]) _ H wn rfl rfl rfl rfl rfl rfl rfl rfl ?_; clear H; intro w H; dsimp only [List.set, setRow] at H
    refine s_assign H wn rfl rfl ?_; clear H; intro a H
    refine wl_nil ?_
    refine hK5 _ _ ?_; clear hK5
    refine c_ret ?_
    refine (leaveT H Try.results6 (.cons (rv_cella ty23pth (cs := [_, _, _]) H rfl rfl (H.hp.ocells 1 rfl rfl)) (.cons (rv_tmp H rfl) .nil)) ?_).1
    exact H.hp.ret ⟨rfl, by rw [meetS, if_pos (.inl (by first | exact p25 | exact p24))]⟩
  · intro h25
    try have p25 := of_decide_eq_false h25
    refine s_field fd23_1pth H (wg H rfl rfl h25) rfl rfl ?_; clear H; intro a H
    refine s_load ty3pth H (wg H rfl rfl h25) rfl (H.hp.ocell 0 rfl rfl) rfl ?_; clear H; intro a H
    refine s_field fd23_2pth H (wg H rfl rfl h25) rfl rfl ?_; clear H; intro a H
    refine s_load ty3pth H (wg H rfl rfl h25) rfl (H.hp.ocell 0 rfl rfl) rfl ?_; clear H; intro a H
    refine s_cmp H (wg H rfl rfl h25) rfl rfl rfl rfl ?_; clear H; intro a H
    refine s_pick_f H wn rfl h25 rfl rfl ?_; clear H; intro a H
    refine wl_nil ?_
    refine hK4 _ _ ?_; clear hK4
    refine c_cond H rfl ?_ ?_
    · intro h31
      try have p31 := of_decide_eq_true h31
      refine c_seq (fun _ hK6 => ?_)
      refine c_region ?_
      refine s_build sr23pth [_, _, _] H wn rfl rfl rfl rfl ?_; clear H; intro a H
      refine s_store ty23pth 1 (vs := [_, _, _]) _ H wn rfl rfl rfl rfl rfl rfl rfl rfl ?_; clear H; intro w H; dsimp only [List.set, setRow] at H
      refine s_assign H wn rfl rfl ?_; clear H; intro a H
      refine wl_nil ?_
      refine hK6 _ _ ?_; clear hK6
      refine c_ret ?_
      refine (leaveT H Try.results6 (.cons (rv_cella ty23pth (cs := [_, _, _]) H rfl rfl (H.hp.ocells 1 rfl rfl)) (.cons (rv_tmp H rfl) .nil)) ?_).1
      exact H.hp.ret ⟨rfl, by rw [meetS, if_pos (.inr (by first | exact p31 | omega))]⟩
    · intro h31
      try have p31 := of_decide_eq_false h31
      refine c_skip ?_
      refine hK3 _ _ ?_; clear hK3
      refine c_seq (fun _ hK7 => ?_)
      refine c_region ?_
      refine s_loada ty23pth (cs := [_, _, _]) H wn rfl rfl (H.hp.ocells 0 rfl rfl) rfl ?_; clear H; intro a H
      refine s_store ty23pth 1 (vs := [_, _, _]) _ H wn rfl rfl rfl rfl rfl rfl rfl rfl ?_; clear H; intro w H; dsimp only [List.set, setRow] at H
      refine s_assign H wn rfl rfl ?_; clear H; intro a H
      refine wl_nil ?_
      refine hK7 _ _ ?_; clear hK7
      refine c_ret ?_
      refine (leaveT H Try.results6 (.cons (rv_cella ty23pth (cs := [_, _, _]) H rfl rfl (H.hp.ocells 1 rfl rfl)) (.cons (rv_tmp H rfl) .nil)) ?_).1
      exact H.hp.ret ⟨rfl, by rw [meetS, if_neg (by simp only [not_or]; exact ⟨by first | exact p25 | exact p24, by first | exact p31 | omega⟩)]; rfl⟩
end Go.Proofs.Ytbfdhlakbdadhaa
