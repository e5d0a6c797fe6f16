/-
  What the claim stands on, part 6: Package property: Merge; package stylesheet: effective. Package stylesheet: effective, named. slices.DeleteFunc of properties; package stylesheet: only. Package stylesheet: only, Text. Package paragraph: Own, own, Char. The settings of layer 17. Plain laws: the character properties of the styles of layer 17. Package paragraph: Sections. The example of layer 15, and what it gives. The examples of layer 14. Plain laws: the flow of two texts and a mark. The examples of layer 14 hold. Drawn regions in which two operations make what is owned more. Fields of values. Regions that draw the order of their operations, of which some write slots that others read before; the beginning of a string. The law of the styles of paragraphs: what it gives.
-/
import Derived.Test.YtlnhhlighgaapaaGreatPe
import Derived.KernelRfl
namespace Go.Proofs.YtlnhhlighgaapaaGreat
section
open Go.RowKit
theorem en114mrg : ∀ args w, (callFunc 114 args).run Tryz.prog w = .ok (.enter 114 args) w := enters Tryz.func114 rfl (by kernel_rfl)
theorem pairs_spec (G : GH) (w0 : World) (hG : Hold G w0) (l m : List PropD) (va vb : Value) (hva : RepV G (.sl 2 (l.map PropD.dat)) va) (hvb : RepV G (.sl 2 (m.map PropD.dat)) vb) :
    Calls Tryz.prog 114 #[va, vb] w0 (Ret w0 G fun u G' => ∃ ba bb, u = .func (.func 187) #[] #[.pointer (some ⟨ba, 0, none⟩), .pointer (some ⟨bb, 0, none⟩)] ∧ Iter Tryz.prog G' u ((prL l m).map prP)) := by
  obtain ⟨A, ca, rfl, hca1, hca2, -⟩ := hva.slice; obtain ⟨B, cb, rfl, hcb1, hcb2, -⟩ := hvb.slice; rw [List.length_map] at *; rw [List.length_map]; refine enter (N := 6) (T := [(0, _), (1, _)]) (F := fun k => k < w0.heap.size) (L := []) Tryz.func114 rfl Tryz.ntmps114 rfl rfl hG (fun _ h => h) (fun _ h => by cases h) (fun _ h => by cases h) (fun _ h => by cases h) List.Pairwise.nil ?_; intro a H; refine c_seqR (fun _ hK1 => ?_); refine s_box (cs := [_]) H wn rfl rfl rfl ?_; clear H; intro b2 a w hb2 H; refine s_box (cs := [_]) H wn rfl rfl rfl ?_; clear H; intro b3 a w hb3 H; refine s_assign H wn rfl rfl ?_; clear H; intro a H; refine hK1 _ _ ?_; clear hK1; refine c_seqR (fun _ hK2 => ?_); refine s_makeFunc H wn rfl rfl ?_; clear H; intro a H; refine s_assign H wn rfl rfl ?_; clear H; intro a H; refine hK2 _ _ ?_; clear hK2; refine c_ret ?_; refine (leave1 H Tryz.results114 (.cons (rv_tmp H rfl) .nil) ?_).1; obtain ⟨Ga, hma, hb3', H⟩ := H.giveBox; obtain ⟨Gb, hmb, hb2', H⟩ := H.giveBox; exact H.hp.ret ⟨b2, b3, rfl, pairs1_iter (l := l) (m := m) (by unfold gcell; rw [hb2']; rfl) (by unfold gcell; rw [hmb _ _ hb3']; rfl) ((hva.mono hma).mono hmb) ((hvb.mono hma).mono hmb)⟩
def mrgV (x : Option PropD × Option PropD) : PropD := match x.2 with | some b => b | none => x.1.getD ⟨0, 0⟩
/-- The properties of one list over those of another one. -/
def mergeS (l m : List PropD) : List PropD := (prL l m).map mrgV
theorem prF_some : ∀ (f : Nat) (l m : List PropD) (x : Option PropD × Option PropD), x ∈ prF f l m → x.2 = none → x.1.isSome = true
  | 0, _, _, x, h, _ => by cases h
  | f + 1, [], [], x, h, _ => by cases h
  | f + 1, p :: l, [], x, h, hx => by
    rw [prF] at h
    rcases List.mem_cons.1 h with rfl | h
    · rfl
    exact prF_some f l [] x h hx
  | f + 1, [], q :: m, x, h, hx => by
    rw [prF] at h
    rcases List.mem_cons.1 h with rfl | h
    · cases hx
    exact prF_some f [] m x h hx
  | f + 1, p :: l, q :: m, x, h, hx => by
    rw [prF] at h; split at h
    · split at h
      · rcases List.mem_cons.1 h with rfl | h
        · cases hx
        exact prF_some f l m x h hx
      rcases List.mem_cons.1 h with rfl | h
      · rfl
      exact prF_some f l (q :: m) x h hx
    rcases List.mem_cons.1 h with rfl | h
    · cases hx
    exact prF_some f (p :: l) m x h hx
theorem mergeS_cells (l m : List PropD) : (mergeS l m).map PropD.cells = (prL l m).map fun x => (mrgV x).cells := by rw [mergeS, List.map_map]; rfl
theorem mergeS_len (l m : List PropD) : (mergeS l m).length ≤ l.length + m.length := by rw [mergeS, List.length_map]; exact prF_len _ _ _
set_option maxHeartbeats 1000000 in
theorem merge_spec (G : GH) (w0 : World) (hG : Hold G w0) (l m : List PropD) (va vb : Value) (hva : RepV G (.sl 2 (l.map PropD.dat)) va) (hvb : RepV G (.sl 2 (m.map PropD.dat)) vb) (hz : l.length + m.length ≤ 4294967296) :
    Calls Tryz.prog 47 #[va, vb] w0 (Ret w0 G fun u G' => RepV G' (.sl 2 ((mergeS l m).map PropD.dat)) u) := by
  obtain ⟨A, ca, rfl, hca1, hca2, -⟩ := hva.slice; obtain ⟨B, cb, rfl, hcb1, hcb2, -⟩ := hvb.slice; have hml : maxLen = 9223372036854775807 := rfl; have hpl : (prL l m).length ≤ l.length + m.length := prF_len _ _ _; rw [List.length_map] at *; rw [List.length_map]; refine enter (N := 28) (T := [(0, _), (1, _)]) (F := fun k => k < w0.heap.size) (L := []) Tryz.func47 rfl Tryz.ntmps47 rfl rfl hG (fun _ h => h) (fun _ h => by cases h) (fun _ h => by cases h) (fun _ h => by cases h) List.Pairwise.nil ?_; intro a H; refine c_seqR (fun _ hK1 => ?_); refine s_assign H wn rfl rfl ?_; clear H; intro a H; refine hK1 _ _ ?_; clear hK1; refine c_seqR (fun _ hK2 => ?_); refine s_alloc ty25run H wn rfl ?_; clear H; intro b5 a w hb5 H; refine hK2 _ _ ?_; clear hK2; refine c_seq (fun _ hK3 => ?_); refine c_seqR (fun _ hK4 => ?_); (iterate 2 refine s_move H wn rfl rfl ?_; clear H; intro a H); refine s_call en114mrg H wn rfl (pairs_spec _ _ H.hp.ro l m _ _ hva hvb) rfl ?_; clear H; rintro v10 G10 a w ⟨ba, bb, rfl, hit⟩ hm10 H; refine hK4 _ _ ?_; clear hK4; refine c_block ?_; skip; refine c_rangeJ (ι := Value × OL) (κ := Empty) (Lc := []) (fun (k : Nat) (gh : Value × OL) => [(b5, .cells #[gh.1] 25 (0, 0))]) (fun (k : Nat) (gh : Value × OL) => gh.2) (fun (k : Nat) (gh : Value × OL) (g : GH) => IsRow 40 2 gh.1 k (((prL l m).take k).map fun x => (mrgV x).cells).flatten gh.2) (fun x => x.elim) (fun x => x.elim) (fun x => x.elim) (fun x => x.elim) ((.slice none 0 0, [])) (by exact H) rfl en187prm (hit) (fun _ _ h => h) rfl (fun k args g h => by obtain ⟨_, _, _, rfl, _⟩ := pr_at h; rfl) (fun _ _ _ _ _ h => h) (fun x => x.elim) (IsRow.nil) ?_ ?_ ?_
  · clear H; intro l3 rdy bsy bk k args gh G3 w3 F3 B3 a hk3 hm3 hI hbeg3 hnext3 hstop3 H; obtain ⟨u, Lo⟩ := gh; dsimp only at hI H; obtain ⟨hk, p3, q3, rfl, hpp, hqq⟩ := pr_at hk3; obtain ⟨x, hx⟩ : ∃ x, x = (prL l m)[k] := ⟨_, rfl⟩; rw [← hx] at hpp hqq; dsimp only [asg, List.cons_append, List.nil_append] at H; have hrw := hI; obtain ⟨vA, vc, rfl, hvc1, hvc2⟩ := hrw.shape; refine c_seqR (fun _ hK5 => ?_); refine s_assign H wn rfl rfl ?_; clear H; intro a H; refine hK5 _ _ ?_; clear hK5; refine c_region ?_; refine s_assign H wn rfl rfl ?_; clear H; intro a H; refine wl_nil ?_; refine hbeg3 _ _ _ _ _ _ (by exact H) ?_; clear H; intro w H; refine c_block ?_; refine c_seqR (fun _ hK6 => ?_); refine s_move H wn rfl rfl ?_; clear H; intro a H; refine s_neqnilp un211prm H wn rfl rfl ?_; clear H; intro a H; refine hK6 _ _ ?_; clear hK6; refine c_cond H rfl ?_ ?_
    · intro h14
      try have p14 := of_decide_eq_true h14
      obtain ⟨y, yb, yo, hx2, rfl, hyr⟩ : ∃ y yb yo, mrgV x = y ∧ q3 = some ⟨yb, yo, none⟩ ∧ ∀ j v, [vi y.key, vi y.value][j]? = some v → gcell G3 yb (yo + j) = some v := by
        cases e : x.2 with
        | none => rw [e] at hqq; rw [show q3 = none from hqq] at h14; cases h14
        | some y =>
          rw [e] at hqq; obtain ⟨b, o, e2, h1, h2⟩ := hqq; refine ⟨y, b, o, by rw [mrgV, e], e2, fun j v hj => ?_⟩
          match j, hj with
          | 0, hj => cases hj; exact h1
          | 1, hj => cases hj; exact h2
      have hprm6 : ∀ (bM_ ix_ : Nat) (v : Value) (G G' : GH), (∀ k o, G k = some o → G' k = some o) → (fun (bM_ ix_ : Nat) (v : Value) (G : GH) => match ix_ with | 0 => v = .slice vA k vc | 1 => v = .pointer (some ⟨yb, yo, none⟩) | 2 => v = .pointer (some ⟨yb, yo, none⟩) | 3 => v = .agg #[vi y.key, vi y.value] | 4 => v = .slice (some ⟨bM_, 0, none⟩) 1 1 | _ => True) bM_ ix_ v G → (fun (bM_ ix_ : Nat) (v : Value) (G : GH) => match ix_ with | 0 => v = .slice vA k vc | 1 => v = .pointer (some ⟨yb, yo, none⟩) | 2 => v = .pointer (some ⟨yb, yo, none⟩) | 3 => v = .agg #[vi y.key, vi y.value] | 4 => v = .slice (some ⟨bM_, 0, none⟩) 1 1 | _ => True) bM_ ix_ v G' := by
        intro bM_ ix_ v G G' hm h
        match ix_, h with
        | 0, h => exact h
        | 1, h => exact h
        | 2, h => exact h
        | 3, h => exact h
        | 4, h => exact h
        | 5, h => exact trivial
        | 6, h => exact trivial
        | _ + 7, h => exact trivial
      refine c_drawK (hmx) [[], [], [1], [1, 2], [1, 2, 3], [0, 1, 2, 3, 4], [0, 1, 2, 3, 4, 5]] [5, 6] (by kernel_rfl) (by kernel_rfl) 4 (by decide) (.cells [vi y.key, vi y.value].toArray 40 (0, 0)) (fun (bM_ ix_ : Nat) (v : Value) (G : GH) => match ix_ with | 0 => v = .slice vA k vc | 1 => v = .pointer (some ⟨yb, yo, none⟩) | 2 => v = .pointer (some ⟨yb, yo, none⟩) | 3 => v = .agg #[vi y.key, vi y.value] | 4 => v = .slice (some ⟨bM_, 0, none⟩) 1 1 | _ => True) (fun _ _ i v G hi h => by
        match i, hi, h with
        | 0, hi, h => exact h
        | 1, hi, h => exact h
        | 2, hi, h => exact h
        | 3, hi, h => exact h
        | 4, hi, h => exact absurd rfl hi
        | 5, hi, h => exact trivial
        | 6, hi, h => exact trivial
        | _ + 7, _, h => exact trivial) H ?_ ?_ ?_ (by kernel_rfl)
      · clear H; refine (allI_cons ?_ (allI_cons ?_ (allI_cons ?_ (allI_cons ?_ (allI_cons ?_ (allI_cons ?_ (allI_cons ?_ allI_nil)))))))
        · intro bM_ Lx_ Sd_ a w G1 hLx_ _ _ hSi hc hG HT hv; have H := HT; clear hSi; have Hb := H.full; have H := Hb; clear hc; refine s_load ty25run H wn rfl (H.hp.mcell (hLx_ _ (List.mem_cons_of_mem _ List.mem_cons_self)) rfl) rfl ?_; clear H; intro a H; refine wl_nil ⟨rfl, ?_⟩; exact draw_val (by kernel_rfl) (hprm6 bM_) rfl rfl HT Hb hG hv (fun _ _ h => h) (rfl) H
        · intro bM_ Lx_ Sd_ a w G1 hLx_ _ _ hSi hc hG HT hv; have H := HT; clear hSi; have Hb := H.full; have H := Hb; clear hc; refine s_move H wn rfl rfl ?_; clear H; intro a H; refine wl_nil ⟨rfl, ?_⟩; exact draw_val (by kernel_rfl) (hprm6 bM_) rfl rfl HT Hb hG hv (fun _ _ h => h) (rfl) H
        · intro bM_ Lx_ Sd_ a w G1 hLx_ _ _ hSi hc hG HT hv; have H := HT; clear hSi; obtain ⟨u16, hu16, hp16⟩ := hv 1 16 (hc 1 (by decide)) rfl; obtain rfl : u16 = .pointer (some ⟨yb, yo, none⟩) := hp16; have H := H.addS hu16; have Hb := H.full; have H := Hb; clear hc; refine s_nilCheck H wn rfl rfl ?_; clear H; intro a H; refine wl_nil ⟨rfl, ?_⟩; exact draw_val (by kernel_rfl) (hprm6 bM_) rfl rfl HT Hb hG hv (fun _ _ h => h) (rfl) H
        · intro bM_ Lx_ Sd_ a w G1 hLx_ _ _ hSi hc hG HT hv; have H := HT; clear hSi; obtain ⟨u17, hu17, hp17⟩ := hv 2 17 (hc 2 (by decide)) rfl; obtain rfl : u17 = .pointer (some ⟨yb, yo, none⟩) := hp17; have H := H.addS hu17; have Hb := H.full; have H := Hb; clear hc; refine s_loada ty40run (cs := [vi y.key, vi y.value]) H wn rfl rfl (fun j v hj => H.hp.gcell (gcell_mono hG (hyr j v hj))) rfl ?_; clear H; intro a H; refine wl_nil ⟨rfl, ?_⟩; exact draw_val (by kernel_rfl) (hprm6 bM_) rfl rfl HT Hb hG hv (fun _ _ h => h) (rfl) H
        · intro _ _ _ _ _ _ _ _ hB; exact absurd hB (by decide)
        · intro _ _ _ _ _ _ _ hB; exact absurd hB (by decide)
        intro _ _ _ _ _ _ _ hB; exact absurd hB (by decide)
      · clear H; intro o_ Sd_ a w G1 ho_ _ hc hG HT hv; obtain rfl : _ = o_ := Option.some.inj ho_; clear ho_; have H := HT; obtain ⟨u18, hu18, hp18⟩ := hv 0 3 18 (by decide) (hc 3 (by decide)) rfl; obtain rfl : u18 = .agg #[vi y.key, vi y.value] := hp18; have H := H.addS hu18; have Hb := H.full; have H := Hb; clear hc; refine s_buildSlice un25run ty40run [_, _] [_, _] H wn rfl rfl rfl rfl rfl (by intro i q h; match i, h with | 0, h => exact h | n + 1, h => simp at h) rfl rfl ?_; clear H; intro b19 a w hb19 H; refine wl_nil ⟨rfl, b19, ?_⟩; exact draw_mid (by kernel_rfl) rfl HT Hb hG (fun j e h1 h2 h3 => hv _ j e h1 h2 h3) (rfl) H
      clear H; intro b19 a w G hGm6 H hv; obtain ⟨u15, hu15, hp15⟩ := hv 0 15 (by decide) rfl; obtain rfl : u15 = .slice vA k vc := hp15; have H := H.addS hu15; obtain ⟨u19, hu19, hp19⟩ := hv 4 19 (by decide) rfl; obtain rfl : u19 = .slice (some ⟨b19, 0, none⟩) 1 1 := hp19; have H := H.addS hu19; clear hv; have H := St.un (A := [_, _, _]) H; refine s_append (Li := [_, _, _] ++ bk) (Lo := Lo) (news := [vi y.key, vi y.value]) un25run ty40run rfl rfl H wn rfl rfl hrw rfl (H.hp.ocells 0 rfl rfl) rfl (by omega) (by omega) rfl ?_; clear H; intro vn Lon a w hrwn0 H; have H := H.assoc; dsimp only [List.cons_append, List.nil_append] at H
      have hrwn : IsRow 40 2 vn (k + 1) (((prL l m).take (k + 1)).map fun x => (mrgV x).cells).flatten Lon := by
        rw [List.take_succ_eq_append_getElem hk, ← hx, List.map_append, List.flatten_append]
        simpa [PropD.cells, hx2] using hrwn0
      obtain ⟨vnA, vnc, en, -, -⟩ := hrwn.shape; subst en; refine s_store ty25run 2 (vs := [_]) _ H wn rfl rfl rfl rfl rfl rfl rfl rfl ?_; clear H; intro w H; dsimp only [List.set, setRow] at H; refine wl_nil ⟨rfl, ?_⟩; refine hnext3 ((.slice vnA (k + 1) vnc, Lon)) _ _ _ _ _ (by exact H.pickT (Pl := [_, _, _]) (Pl' := [_, _]) [1, 2] (by decide) rfl) ?_; exact hrwn
    intro h14
    try have p14 := of_decide_eq_false h14
    obtain ⟨y, yb, yo, hx2, rfl, hyr⟩ : ∃ y yb yo, mrgV x = y ∧ p3 = some ⟨yb, yo, none⟩ ∧ ∀ j v, [vi y.key, vi y.value][j]? = some v → gcell G3 yb (yo + j) = some v := by
      cases e : x.2 with
      | some y => rw [e] at hqq; obtain ⟨b, o, e2, h1, h2⟩ := hqq; rw [e2] at h14; cases h14
      | none =>
        obtain ⟨y, e1⟩ := Option.isSome_iff_exists.1 (prF_some _ _ _ x (by rw [hx]; exact List.getElem_mem hk) e); rw [e1] at hpp; obtain ⟨b, o, e2, h1, h2⟩ := hpp; refine ⟨y, b, o, by rw [mrgV, e, e1]; rfl, e2, fun j v hj => ?_⟩
        match j, hj with
        | 0, hj => cases hj; exact h1
        | 1, hj => cases hj; exact h2
    have hprm7 : ∀ (bM_ ix_ : Nat) (v : Value) (G G' : GH), (∀ k o, G k = some o → G' k = some o) → (fun (bM_ ix_ : Nat) (v : Value) (G : GH) => match ix_ with | 0 => v = .slice vA k vc | 1 => v = .pointer (some ⟨yb, yo, none⟩) | 2 => v = .pointer (some ⟨yb, yo, none⟩) | 3 => v = .agg #[vi y.key, vi y.value] | 4 => v = .slice (some ⟨bM_, 0, none⟩) 1 1 | _ => True) bM_ ix_ v G → (fun (bM_ ix_ : Nat) (v : Value) (G : GH) => match ix_ with | 0 => v = .slice vA k vc | 1 => v = .pointer (some ⟨yb, yo, none⟩) | 2 => v = .pointer (some ⟨yb, yo, none⟩) | 3 => v = .agg #[vi y.key, vi y.value] | 4 => v = .slice (some ⟨bM_, 0, none⟩) 1 1 | _ => True) bM_ ix_ v G' := by
      intro bM_ ix_ v G G' hm h
      match ix_, h with
      | 0, h => exact h
      | 1, h => exact h
      | 2, h => exact h
      | 3, h => exact h
      | 4, h => exact h
      | 5, h => exact trivial
      | 6, h => exact trivial
      | _ + 7, h => exact trivial
    refine c_drawK (hmx) [[], [], [1], [1, 2], [1, 2, 3], [0, 1, 2, 3, 4], [0, 1, 2, 3, 4, 5]] [5, 6] (by kernel_rfl) (by kernel_rfl) 4 (by decide) (.cells [vi y.key, vi y.value].toArray 40 (0, 0)) (fun (bM_ ix_ : Nat) (v : Value) (G : GH) => match ix_ with | 0 => v = .slice vA k vc | 1 => v = .pointer (some ⟨yb, yo, none⟩) | 2 => v = .pointer (some ⟨yb, yo, none⟩) | 3 => v = .agg #[vi y.key, vi y.value] | 4 => v = .slice (some ⟨bM_, 0, none⟩) 1 1 | _ => True) (fun _ _ i v G hi h => by
      match i, hi, h with
      | 0, hi, h => exact h
      | 1, hi, h => exact h
      | 2, hi, h => exact h
      | 3, hi, h => exact h
      | 4, hi, h => exact absurd rfl hi
      | 5, hi, h => exact trivial
      | 6, hi, h => exact trivial
      | _ + 7, _, h => exact trivial) H ?_ ?_ ?_ (by kernel_rfl)
    · clear H; refine (allI_cons ?_ (allI_cons ?_ (allI_cons ?_ (allI_cons ?_ (allI_cons ?_ (allI_cons ?_ (allI_cons ?_ allI_nil)))))))
      · intro bM_ Lx_ Sd_ a w G1 hLx_ _ _ hSi hc hG HT hv; have H := HT; clear hSi; have Hb := H.full; have H := Hb; clear hc; refine s_load ty25run H wn rfl (H.hp.mcell (hLx_ _ (List.mem_cons_of_mem _ List.mem_cons_self)) rfl) rfl ?_; clear H; intro a H; refine wl_nil ⟨rfl, ?_⟩; exact draw_val (by kernel_rfl) (hprm7 bM_) rfl rfl HT Hb hG hv (fun _ _ h => h) (rfl) H
      · intro bM_ Lx_ Sd_ a w G1 hLx_ _ _ hSi hc hG HT hv; have H := HT; clear hSi; have Hb := H.full; have H := Hb; clear hc; refine s_move H wn rfl rfl ?_; clear H; intro a H; refine wl_nil ⟨rfl, ?_⟩; exact draw_val (by kernel_rfl) (hprm7 bM_) rfl rfl HT Hb hG hv (fun _ _ h => h) (rfl) H
      · intro bM_ Lx_ Sd_ a w G1 hLx_ _ _ hSi hc hG HT hv; have H := HT; clear hSi; obtain ⟨u22, hu22, hp22⟩ := hv 1 22 (hc 1 (by decide)) rfl; obtain rfl : u22 = .pointer (some ⟨yb, yo, none⟩) := hp22; have H := H.addS hu22; have Hb := H.full; have H := Hb; clear hc; refine s_nilCheck H wn rfl rfl ?_; clear H; intro a H; refine wl_nil ⟨rfl, ?_⟩; exact draw_val (by kernel_rfl) (hprm7 bM_) rfl rfl HT Hb hG hv (fun _ _ h => h) (rfl) H
      · intro bM_ Lx_ Sd_ a w G1 hLx_ _ _ hSi hc hG HT hv; have H := HT; clear hSi; obtain ⟨u23, hu23, hp23⟩ := hv 2 23 (hc 2 (by decide)) rfl; obtain rfl : u23 = .pointer (some ⟨yb, yo, none⟩) := hp23; have H := H.addS hu23; have Hb := H.full; have H := Hb; clear hc; refine s_loada ty40run (cs := [vi y.key, vi y.value]) H wn rfl rfl (fun j v hj => H.hp.gcell (gcell_mono hG (hyr j v hj))) rfl ?_; clear H; intro a H; refine wl_nil ⟨rfl, ?_⟩; exact draw_val (by kernel_rfl) (hprm7 bM_) rfl rfl HT Hb hG hv (fun _ _ h => h) (rfl) H
      · intro _ _ _ _ _ _ _ _ hB; exact absurd hB (by decide)
      · intro _ _ _ _ _ _ _ hB; exact absurd hB (by decide)
      intro _ _ _ _ _ _ _ hB; exact absurd hB (by decide)
    · clear H; intro o_ Sd_ a w G1 ho_ _ hc hG HT hv; obtain rfl : _ = o_ := Option.some.inj ho_; clear ho_; have H := HT; obtain ⟨u24, hu24, hp24⟩ := hv 0 3 24 (by decide) (hc 3 (by decide)) rfl; obtain rfl : u24 = .agg #[vi y.key, vi y.value] := hp24; have H := H.addS hu24; have Hb := H.full; have H := Hb; clear hc; refine s_buildSlice un25run ty40run [_, _] [_, _] H wn rfl rfl rfl rfl rfl (by intro i q h; match i, h with | 0, h => exact h | n + 1, h => simp at h) rfl rfl ?_; clear H; intro b25 a w hb25 H; refine wl_nil ⟨rfl, b25, ?_⟩; exact draw_mid (by kernel_rfl) rfl HT Hb hG (fun j e h1 h2 h3 => hv _ j e h1 h2 h3) (rfl) H
    clear H; intro b25 a w G hGm7 H hv; obtain ⟨u21, hu21, hp21⟩ := hv 0 21 (by decide) rfl; obtain rfl : u21 = .slice vA k vc := hp21; have H := H.addS hu21; obtain ⟨u25, hu25, hp25⟩ := hv 4 25 (by decide) rfl; obtain rfl : u25 = .slice (some ⟨b25, 0, none⟩) 1 1 := hp25; have H := H.addS hu25; clear hv; have H := St.un (A := [_, _, _]) H; refine s_append (Li := [_, _, _] ++ bk) (Lo := Lo) (news := [vi y.key, vi y.value]) un25run ty40run rfl rfl H wn rfl rfl hrw rfl (H.hp.ocells 0 rfl rfl) rfl (by omega) (by omega) rfl ?_; clear H; intro vn Lon a w hrwn0 H; have H := H.assoc; dsimp only [List.cons_append, List.nil_append] at H
    have hrwn : IsRow 40 2 vn (k + 1) (((prL l m).take (k + 1)).map fun x => (mrgV x).cells).flatten Lon := by
      rw [List.take_succ_eq_append_getElem hk, ← hx, List.map_append, List.flatten_append]
      simpa [PropD.cells, hx2] using hrwn0
    obtain ⟨vnA, vnc, en, -, -⟩ := hrwn.shape; subst en; refine s_store ty25run 2 (vs := [_]) _ H wn rfl rfl rfl rfl rfl rfl rfl rfl ?_; clear H; intro w H; dsimp only [List.set, setRow] at H; refine wl_nil ⟨rfl, ?_⟩; refine hnext3 ((.slice vnA (k + 1) vnc, Lon)) _ _ _ _ _ (by exact H.pickT (Pl := [_, _, _]) (Pl' := [_, _]) [1, 2] (by decide) rfl) ?_; exact hrwn
  · clear H; intro Dk3 gh Gd3 a w hm3 hI H; obtain ⟨u, Lo⟩ := gh; dsimp only at hI H; dsimp only [List.cons_append, List.nil_append, List.append_nil] at H; have hrw := hI; rw [List.length_map, List.take_of_length_le (Nat.le_refl _)] at hrw; refine hK3 _ _ ?_; clear hK3; refine c_seqR (fun _ hK7 => ?_); refine s_load ty25run H wn rfl (H.hp.ocell 1 rfl rfl) rfl ?_; clear H; intro a H; refine s_assign H wn rfl rfl ?_; clear H; intro a H; refine hK7 _ _ ?_; clear hK7; refine c_ret ?_; obtain ⟨Gr, hmr, hrep, H⟩ := St.giveRow (Li := [_, _]) (Lo := Lo) H hrw (rows := (mergeS l m).map PropD.dat) (by simp [mergeS]) (by rw [← mergeS_cells]; exact props_cat _ _); refine (leaveM H 0 rfl ?_).1; clear H; intro a w H; dsimp only [List.eraseIdx_cons_succ, List.eraseIdx_cons_zero] at H; refine (leave1 H Tryz.results47 (.cons (rv_tmp H rfl) .nil) ?_).1; exact H.hp.ret hrep
  intro Dk x; exact x.elim
end
section
open Go.RowKit
theorem en47eff : ∀ args w, (callFunc 47 args).run Tryz.prog w = .ok (.enter 47 args) w := enters Tryz.func47 rfl (by kernel_rfl)
theorem en108eff : ∀ args w, (callFunc 108 args).run Tryz.prog w = .ok (.enter 108 args) w := enters Tryz.func108 rfl (by kernel_rfl)
theorem en109eff : ∀ args w, (callFunc 109 args).run Tryz.prog w = .ok (.enter 109 args) w := enters Tryz.func109 rfl (by kernel_rfl)
def effF (out : List PropD) (s : StyleD) : List PropD := mergeS s.props out
/-- The properties of a style together with those that it inherits. -/
def effS (l : List StyleD) (id : Int) : List PropD := (chL l id).foldl effF []
def effK (l : List StyleD) (id : Int) (k : Nat) : List PropD := ((chL l id).take k).foldl effF []
theorem effK_succ {l : List StyleD} {id : Int} {k : Nat} (h : k < (chL l id).length) : effK l id (k + 1) = mergeS (chL l id)[k].props (effK l id k) := by
  rw [effK, List.take_succ_eq_append_getElem h, List.foldl_append]; rfl
theorem effK_all (l : List StyleD) (id : Int) : effK l id (chL l id).length = effS l id := by rw [effK, List.take_length]; rfl
/-- What a list of styles must be for what follows. -/
structure StyOk (l : List StyleD) : Prop where
  len : l.length ≤ 128
  nodup : ∀ (k : Nat) (h : k < l.length), l[k].id ∉ (l.take k).map StyleD.id
  acyc : ∀ id, (chL l id).length ≤ l.length
  props : ∀ s ∈ l, s.props.length ≤ 16777216
theorem idxI_val {x : Int} : ∀ {l : List Int} {i n : Nat}, idxI x i l = some n → l[n - i]? = some x
  | [], _, _, h => by cases h
  | k :: r, i, n, h => by
    rw [idxI] at h; split at h
    · cases h; rename_i e; simp [e]
    have h1 := idxI_val h; have h2 := idxI_ge h; rw [show n - i = (n - (i + 1)) + 1 by omega]; exact h1
theorem styOk {l : List StyleD} (h : checkS l = 0) (hP : ∀ s ∈ l, s.props.length ≤ 16777216) : StyOk l := by
  unfold checkS at h
  split at h
  · cases h
  split at h
  · rename_i h1 h2; exact absurd h h2
  split at h
  · cases h
  split at h
  · cases h
  rename_i h1 h2 h3 h4
  have h2' := Decidable.not_not.1 h2; refine ⟨by omega, own_nodup h2', fun id => ?_, hP⟩
  by_cases h0 : id = 0
  · rw [chL, chF_zero h0]; exact Nat.zero_le _
  cases hi : idxI id 0 (l.map StyleD.id) with
  | none => rw [chL, chF_none h0 hi]; exact Nat.zero_le _
  | some i =>
    have hv := idxI_val hi; rw [Nat.sub_zero, List.getElem?_map] at hv; obtain ⟨s, hs, rfl⟩ := Option.map_eq_some_iff.1 hv
    have hc : cyc l s = false := by
      cases hcs : cyc l s with
      | false => rfl
      | true => exact absurd (List.any_eq_true.2 ⟨s, List.mem_of_getElem? hs, hcs⟩) h4
    have := of_decide_eq_false hc
    omega
theorem effK_len {l : List StyleD} (h : StyOk l) (id : Int) : ∀ k, k ≤ (chL l id).length → (effK l id k).length ≤ k * 16777216
  | 0, _ => by simp [effK]
  | k + 1, hk => by
    have h1 := effK_len h id k (by omega); have h2 := mergeS_len (chL l id)[k].props (effK l id k); have h3 := h.props _ (chF_get (List.getElem_mem (show k < (chL l id).length by omega))); rw [effK_succ (by omega), Nat.succ_mul]
    omega
theorem effective_spec (G : GH) (w0 : World) (hG : Hold G w0) (l : List StyleD) (id : Int) (v : Value) (hv : RepV G (.sl 6 (l.map StyleD.dat)) v) (hl : StyOk l) :
    Calls Tryz.prog 109 #[v, vi id] w0 (Ret w0 G fun u G' => RepV G' (.sl 2 ((effS l id).map PropD.dat)) u) := by
  obtain ⟨A, c, rfl, hc1, hc2, -⟩ := hv.slice; have hac := hl.acyc id; have hl1 := hl.len; rw [List.length_map] at *; refine enter (N := 16) (T := [(0, _), (1, _)]) (F := fun k => k < w0.heap.size) (L := []) Tryz.func109 rfl Tryz.ntmps109 rfl rfl hG (fun _ h => h) (fun _ h => by cases h) (fun _ h => by cases h) (fun _ h => by cases h) List.Pairwise.nil ?_; intro a H; refine c_seqR (fun _ hK1 => ?_); refine s_assign H wn rfl rfl ?_; clear H; intro a H; refine hK1 _ _ ?_; clear hK1; refine c_seqR (fun _ hK2 => ?_); refine s_alloc ty25run H wn rfl ?_; clear H; intro b5 a w hb5 H; refine hK2 _ _ ?_; clear hK2; refine c_seq (fun _ hK3 => ?_); refine c_seqR (fun _ hK4 => ?_); (iterate 2 refine s_move H wn rfl rfl ?_; clear H; intro a H); refine s_callL en105chk (Li := [_]) (L := []) H wn rfl (chain_spec (Hp.owns (Li := [_]) H.hp) l id _ hv) rfl ?_; clear H; rintro v9 g4 L9 a w ⟨bl, bi, rfl, rfl, hbl⟩ hm9 H; have H := H.perm List.perm_append_comm; dsimp only [List.cons_append, List.nil_append] at H; have hit := chain1_iter (l := l) (id := id) (bi := bi) hbl (hv.mono hm9) hl.nodup; refine hK4 _ _ ?_; clear hK4; refine c_block ?_; skip; refine c_rangeJI (B := [(_, _)]) (ι := Option Addr × Nat) (κ := Empty) (Lc := []) (fun (k : Nat) (gh : Option Addr × Nat) => [(b5, .cells #[.slice gh.1 (effK l id k).length gh.2] 25 (0, 0))]) (fun (k : Nat) (gh : Option Addr × Nat) => []) (fun (k : Nat) (gh : Option Addr × Nat) (g : GH) => RepV g (.sl 2 ((effK l id k).map PropD.dat)) (.slice gh.1 (effK l id k).length gh.2)) (fun x => x.elim) (fun x => x.elim) (fun x => x.elim) (fun x => x.elim) ((none, 0)) (by exact H) rfl en181chn (hit) (fun _ _ h => h) (fun e => absurd (of_decide_eq_false e) (by omega)) rfl (fun k args g h => by obtain ⟨_, _, rfl, _⟩ := st_at h; rfl) (fun _ _ _ _ hm h => RepV.mono hm h) (fun x => x.elim) (RepV.nil_ (A := none) (n := 0) (c := 0) rfl (by decide)) ?_ ?_ ?_
  · clear H; intro l3 rdy bsy bk k args gh G3 w3 F3 B3 a hk3 hm3 hI hbeg3 hnext3 hstop3 H; obtain ⟨uA, uc⟩ := gh; dsimp only at hI H; obtain ⟨hk, cs3, rfl, hrep3⟩ := st_at hk3; obtain ⟨pA, pc, rfl, hp3⟩ := style_of hrep3; dsimp only [asg, List.cons_append, List.nil_append] at H; refine c_region ?_; refine s_alloc ty100sty H wn rfl ?_; clear H; intro b6 a w hb6 H; refine s_store ty100sty 0 (vs := [_, _, _, _, _, _]) _ H wn rfl rfl rfl rfl rfl rfl rfl rfl ?_; clear H; intro w H; dsimp only [List.set, setRow] at H; refine wl_nil ?_; refine hbeg3 _ _ _ _ _ _ (by exact H.pickT (Pl := [_, _, _]) (Pl' := [_, _, _]) [1, 0, 2] (by decide) rfl) ?_; clear H; intro w H; refine c_block ?_; refine c_region ?_; refine s_field fd100_5stz H wn rfl rfl ?_; clear H; intro a H; refine s_load ty25run H wn rfl (H.hp.ocell 1 rfl rfl) rfl ?_; clear H; intro a H; refine s_load ty25run H wn rfl (H.hp.ocell 2 rfl rfl) rfl ?_; clear H; intro a H; refine s_call en47eff H wn rfl (merge_spec _ _ H.hp.ro (chL l id)[k].props (effK l id k) _ _ hp3 hI (by have h1 := effK_len hl id k (by omega); have h3 := hl.props _ (chF_get (List.getElem_mem hk)); omega)) rfl ?_; clear H; rintro v14 G14 a w hv14 hm14 H; rw [← effK_succ hk] at hv14; obtain ⟨vA, vc, rfl, -, -, -⟩ := hv14.slice; rw [List.length_map] at hv14 H; refine s_store ty25run 2 (vs := [_]) _ H wn rfl rfl rfl rfl rfl rfl rfl rfl ?_; clear H; intro w H; dsimp only [List.set, setRow] at H; refine wl_nil ?_; refine hnext3 ((vA, vc)) _ _ _ _ _ (by exact H.pickT (Pl := [_, _, _]) (Pl' := [_, _]) [0, 2] (by decide) rfl) ?_; exact hv14
  · clear H; intro Dk3 gh Gd3 a w hm3 hI H; obtain ⟨uA, uc⟩ := gh; dsimp only at hI H; dsimp only [List.cons_append, List.nil_append, List.append_nil] at H; have hv9 := hI; rw [show (List.map stP (chL l id)).length = (chL l id).length from List.length_map _] at hv9 H; refine hK3 _ _ ?_; clear hK3; refine c_seqR (fun _ hK5 => ?_); refine s_load ty25run H wn rfl (H.hp.ocell 1 rfl rfl) rfl ?_; clear H; intro a H; refine s_assign H wn rfl rfl ?_; clear H; intro a H; refine hK5 _ _ ?_; clear hK5; refine c_ret ?_; refine (leaveM H 0 rfl ?_).1; clear H; intro a w H; dsimp only [List.eraseIdx_cons_succ, List.eraseIdx_cons_zero] at H; refine (leave1 H Tryz.results109 (.cons (rv_tmp H rfl) .nil) ?_).1; exact H.hp.ret (by rw [← effK_all]; exact hv9)
  intro Dk x; exact x.elim
/-- The effective properties of the style that a key names, or the error. -/
def namedE (l : List StyleD) (props : List PropD) (key kind : Int) : Int := if (getK props key).1 ≠ 0 ∧ isS l kind (getK props key).1 = false then 25 else 0
def namedS (l : List StyleD) (props : List PropD) (key kind : Int) : List PropD := if namedE l props key kind = 0 then effS l (getK props key).1 else []
theorem named_spec (G : GH) (w0 : World) (hG : Hold G w0) (l : List StyleD) (props : List PropD) (key kind : Int) (v vp : Value) (hv : RepV G (.sl 6 (l.map StyleD.dat)) v) (hl : StyOk l) (hp : RepV G (.sl 2 (props.map PropD.dat)) vp) (hpl : props.length ≤ 4294967296) :
    Calls Tryz.prog 45 #[v, vp, vi key, vi kind] w0 (Ret w0 G fun u G' => ∃ x, u = .tuple #[x, vi (namedE l props key kind)] ∧ RepV G' (.sl 2 ((namedS l props key kind).map PropD.dat)) x) := by
  obtain ⟨A, c, rfl, hc1, hc2, -⟩ := hv.slice; obtain ⟨B, cp, rfl, hd1, hd2, -⟩ := hp.slice; rw [List.length_map] at *; rw [List.length_map]; refine enter (N := 30) (T := [(0, _), (1, _), (2, _), (3, _)]) (F := fun k => k < w0.heap.size) (L := []) Tryz.func45 rfl Tryz.ntmps45 rfl rfl hG (fun _ h => h) (fun _ h => by cases h) (fun _ h => by cases h) (fun _ h => by cases h) List.Pairwise.nil ?_; intro a H; refine c_seqR (fun _ hK1 => ?_); (iterate 2 refine s_assign H wn rfl rfl ?_; clear H; intro a H); refine hK1 _ _ ?_; clear hK1; refine c_seqR (fun _ hK2 => ?_); (iterate 2 refine s_move H wn rfl rfl ?_; clear H; intro a H); refine s_call en108eff H wn rfl (get_spec _ _ H.hp.ro props key _ hp hpl) rfl ?_; clear H; rintro v15 G15 a w rfl hm15 H; refine s_move H wn rfl rfl ?_; clear H; intro a H; (iterate 2 refine s_extract H wn rfl rfl rfl ?_; clear H; intro a H); (iterate 2 refine s_assign H wn rfl rfl ?_; clear H; intro a H); refine hK2 _ _ ?_; clear hK2; refine c_seq (fun _ hK3 => ?_); refine c_seqR (fun _ hK4 => ?_); refine s_move H wn rfl rfl ?_; clear H; intro a H; refine s_cmp H wn rfl rfl rfl rfl ?_; clear H; intro a H; refine s_move H wn rfl rfl ?_; clear H; intro a H; refine s_split H 20 rfl ?_ ?_
  · intro h20
    try have p20 := of_decide_eq_true h20
    (iterate 3 refine s_move H (wg H rfl rfl h20) rfl rfl ?_; clear H; intro a H); refine s_call en104chk H (wg H rfl rfl h20) rfl (is_spec _ _ H.hp.ro l kind (getK props key).1 _ (hv.mono hm15)) rfl ?_; clear H; rintro v24 G24 a w rfl hm24 H; refine s_not H (wg H rfl rfl h20) rfl rfl ?_; clear H; intro a H; refine s_pick_t H wn rfl h20 rfl rfl ?_; clear H; intro a H; refine hK4 _ _ ?_; clear hK4; refine c_cond H rfl ?_ ?_
    · intro h26
      try have p26 := of_decide_eq_true h26
      refine c_seq (fun _ hK5 => ?_); have he : namedE l props key kind = 25 := if_pos (by simp_all); refine c_region ?_; (iterate 2 refine s_assign H wn rfl rfl ?_; clear H; intro a H); refine wl_nil ?_; refine hK5 _ _ ?_; clear hK5; refine c_ret ?_; refine (leaveT H Tryz.results45 (.cons (rv_tmp H rfl) (.cons (rv_tmp H rfl) .nil)) ?_).1
      first
        | exact H.hp.ret ⟨_, by rw [he], by rw [namedS, if_neg (by rw [he]; decide)]; exact RepV.nil_ rfl (by decide)⟩
        | exact H.hp.ret ⟨_, by rw [he], by rw [namedS, if_pos he]; exact hv29⟩
    intro h26
    try have p26 := of_decide_eq_false h26
    refine c_skip ?_; refine hK3 _ _ ?_; clear hK3; refine c_seq (fun _ hK6 => ?_); have he : namedE l props key kind = 0 := if_neg (by simp_all); refine c_region ?_; (iterate 2 refine s_move H wn rfl rfl ?_; clear H; intro a H); refine s_call en109eff H wn rfl (effective_spec _ _ H.hp.ro l (getK props key).1 _ (RepV.mono (by first | exact fun b o h => hm24 b o (hm15 b o h) | exact hm15) hv) hl) rfl ?_; clear H; rintro v29 G29 a w hv29 hm29 H; obtain ⟨eA, en, ec, rfl⟩ := hv29.form; (iterate 2 refine s_assign H wn rfl rfl ?_; clear H; intro a H); refine wl_nil ?_; refine hK6 _ _ ?_; clear hK6; refine c_ret ?_; refine (leaveT H Tryz.results45 (.cons (rv_tmp H rfl) (.cons (rv_tmp H rfl) .nil)) ?_).1
    first
      | exact H.hp.ret ⟨_, by rw [he], by rw [namedS, if_neg (by rw [he]; decide)]; exact RepV.nil_ rfl (by decide)⟩
      | exact H.hp.ret ⟨_, by rw [he], by rw [namedS, if_pos he]; exact hv29⟩
  intro h20
  try have p20 := of_decide_eq_false h20
  (iterate 5 refine s_skip H rfl rfl h20 rfl ?_; clear H; intro a H); refine s_pick_f H wn rfl h20 rfl rfl ?_; clear H; intro a H; refine hK4 _ _ ?_; clear hK4; refine c_cond_f H rfl rfl ?_; refine c_skip ?_; refine hK3 _ _ ?_; clear hK3; refine c_seq (fun _ hK7 => ?_); have he : namedE l props key kind = 0 := if_neg (by simp_all); refine c_region ?_; (iterate 2 refine s_move H wn rfl rfl ?_; clear H; intro a H); refine s_call en109eff H wn rfl (effective_spec _ _ H.hp.ro l (getK props key).1 _ (RepV.mono (by first | exact fun b o h => hm24 b o (hm15 b o h) | exact hm15) hv) hl) rfl ?_; clear H; rintro v29 G29 a w hv29 hm29 H; obtain ⟨eA, en, ec, rfl⟩ := hv29.form; (iterate 2 refine s_assign H wn rfl rfl ?_; clear H; intro a H); refine wl_nil ?_; refine hK7 _ _ ?_; clear hK7; refine c_ret ?_; refine (leaveT H Tryz.results45 (.cons (rv_tmp H rfl) (.cons (rv_tmp H rfl) .nil)) ?_).1
  first
    | exact H.hp.ret ⟨_, by rw [he], by rw [namedS, if_neg (by rw [he]; decide)]; exact RepV.nil_ rfl (by decide)⟩
    | exact H.hp.ret ⟨_, by rw [he], by rw [namedS, if_pos he]; exact hv29⟩
end
section
open Go.RowKit
theorem en186dlf : ∀ args w, (callFunc 186 args).run Tryz.prog w = .ok (.enter 186 args) w := enters Tryz.func186 rfl (by kernel_rfl)
def dCells (l : List PropD) : List Value := (l.map PropD.cells).flatten
theorem dCells_len : ∀ l : List PropD, (dCells l).length = l.length * 2
  | [] => rfl
  | p :: l => by
    have := dCells_len l
    simp only [dCells, List.map_cons, List.flatten_cons, List.length_append] at this ⊢
    rw [this, show p.cells.length = 2 from rfl, List.length_cons]; omega
theorem dCells_get : ∀ {l : List PropD} {k : Nat} (h : k < l.length) (j : Nat), j < 2 → (dCells l)[k * 2 + j]? = l[k].cells[j]?
  | p :: l, 0, _, j, hj => by
    simp only [dCells, List.map_cons, List.flatten_cons, Nat.zero_mul, Nat.zero_add, List.getElem_cons_zero]
    rw [List.getElem?_append_left (by rw [show p.cells.length = 2 from rfl]; exact hj)]
  | p :: l, k + 1, h, j, hj => by
    have ih := dCells_get (l := l) (k := k) (by simpa using h) j hj
    simp only [dCells, List.map_cons, List.flatten_cons, List.getElem_cons_succ] at ih ⊢
    rw [List.getElem?_append_right (by rw [show p.cells.length = 2 from rfl]; omega), show p.cells.length = 2 from rfl, show (k + 1) * 2 + j - 2 = k * 2 + j by omega]; exact ih
theorem dCells_append (l m : List PropD) : dCells (l ++ m) = dCells l ++ dCells m := by simp [dCells]
/-- The cells of an element of a row that a call owns. -/
theorem row_cell {w0 w : World} {F : Nat → Prop} {G0 G : GH} {L Lo : OL} {e c n : Nat} {A : Option Addr} {l : List PropD} (h : IsRow e 2 (.slice A n c) n (dCells l) Lo) (hn : n = l.length) (H : Hp w0 F G0 G L w) (hsub : ∀ x ∈ Lo, x ∈ L) {k : Nat} (hk : k < l.length) :
    ∃ b, A = some ⟨b, 0, none⟩ ∧ ∀ j u, [vi l[k].key, vi l[k].value][j]? = some u → w.cell? ⟨b, 0 + k * 2 + j, none⟩ = some u := by
  rcases h.2 with ⟨_, h0, _⟩ | ⟨b, cap, cur, he, hl, h1, h2, h3, h4⟩
  · omega
  injection he with e1 e2 e3
  refine ⟨b, e1, fun j u hu => ?_⟩
  have hj : j < 2 := by have := (List.getElem?_eq_some_iff.1 hu).1; simpa using this
  refine H.mcell (c := cur) (e := e) (fz := (0, 0)) (hsub _ (by rw [hl]; exact List.mem_singleton_self _)) ?_; have h5 := dCells_get hk j hj; rw [← h4, List.getElem?_take, if_pos (by omega), Array.getElem?_toList] at h5; rw [show 0 + k * 2 + j = k * 2 + j by omega, h5]; exact hu
theorem indexProp_spec {G : GH} {w0 : World} {Lo : OL} {v fv : Value} (l : List PropD) (p : PropD → Bool) (hO : Owns G Lo w0) (hrw : IsRow 40 2 v l.length (dCells l) Lo) (hf : ∀ x ∈ l, Tester fv G x.dat (p x)) :
    Calls Tryz.prog 186 #[v, fv] w0 (RetL w0 G Lo fun u G' L' => L' = Lo ∧ u = vi (ixI (l.findIdx? p))) := by
  obtain ⟨A, c, rfl, hc1, hc2⟩ := hrw.shape; have hml : maxLen = 9223372036854775807 := rfl; refine enterL (N := 19) (T := [(0, _), (1, _)]) Tryz.func186 rfl Tryz.ntmps186 rfl rfl hO ?_; intro a H; refine c_seqR (fun _ hK1 => ?_); refine s_assign H wn rfl rfl ?_; clear H; intro a H; refine hK1 _ _ ?_; clear hK1; refine c_seq (fun _ hK2 => ?_); refine c_seqR (fun _ hK3 => ?_); refine s_move H wn rfl rfl ?_; clear H; intro a H; refine s_len un25run H wn rfl rfl ?_; clear H; intro a H; refine s_move H wn rfl rfl ?_; clear H; intro a H; refine hK3 _ _ ?_; clear hK3; refine c_block ?_; skip; refine c_loopS (ι := Nat × GH) (Tc := [(0, _), (1, _), (7, _)]) (Lc := []) (fun (gh : Nat × GH) => [(8, vi gh.1)]) (fun (gh : Nat × GH) => [] ++ Lo) (fun (gh : Nat × GH) => gh.2) (fun (gh : Nat × GH) => gh.1 ≤ l.length ∧ (l.take gh.1).findIdx? p = none ∧ (∀ b o, G b = some o → gh.2 b = some o)) (fun (gh : Nat × GH) => l.length - gh.1) ((0, G)) (by exact (H).sub ⟨rfl, rfl, rfl, rfl, trivial⟩) ?_ ?_
  · exact ⟨by omega, rfl, fun _ _ h => h⟩
  clear H; intro gh a w hI H; obtain ⟨k, g⟩ := gh; dsimp only at hI H; obtain ⟨hk, hno, hgm⟩ := hI; dsimp only [List.cons_append, List.nil_append, List.append_nil] at H; refine c_seqR (fun _ hK4 => ?_); refine s_cmp H wn rfl rfl rfl rfl ?_; clear H; intro a H; refine hK4 _ _ ?_; clear hK4; refine c_seq (fun _ hK5 => ?_); refine c_cond H rfl ?_ ?_
  · intro h9
    try have p9 := of_decide_eq_true h9
    have hk2 : k < l.length := by omega
    obtain ⟨b, rfl, hrow⟩ := row_cell hrw rfl H.hp (fun x hx => by first | exact hx | exact List.mem_cons_of_mem _ hx | simpa using hx) hk2; refine c_skip ?_; refine hK5 _ _ ?_; clear hK5; refine c_seq (fun _ hK6 => ?_); refine c_block ?_; refine c_seqR (fun _ hK7 => ?_); refine s_move H wn rfl rfl ?_; clear H; intro a H; refine s_assign H wn rfl rfl ?_; clear H; intro a H; refine hK7 _ _ ?_; clear hK7; refine c_seqR (fun _ hK8 => ?_); (iterate 3 refine s_move H wn rfl rfl ?_; clear H; intro a H); refine s_index un25run ty40run _ H wn rfl rfl rfl (by first | assumption | omega) rfl ?_; clear H; intro a H; refine s_loada ty40run (cs := [vi l[k].key, vi l[k].value]) H wn rfl rfl hrow rfl ?_; clear H; intro a H; refine s_callv0 H wn rfl rfl (hf _ (List.getElem_mem hk2) _ _ _ hgm H.hp.ro (prop_row _ l[k])) rfl ?_; clear H; rintro v16 G16 a w rfl hm16 H; refine hK8 _ _ ?_; clear hK8; refine c_cond H rfl ?_ ?_
    · intro h16
      try have p16 := of_decide_eq_true h16
      refine c_seqR (fun _ hK9 => ?_); refine s_move H wn rfl rfl ?_; clear H; intro a H; refine s_assign H wn rfl rfl ?_; clear H; intro a H; refine hK9 _ _ ?_; clear hK9; refine c_ret ?_; refine (leave1 H Tryz.results186 (.cons (rv_tmp H rfl) .nil) ?_).1
      first
        | exact H.hp.retL ⟨rfl, by rw [idx_stop hk2 hno h16]; rfl⟩
        | exact H.hp.retL ⟨rfl, by rw [show l.take k = l from List.take_of_length_le (by omega)] at hno; rw [hno]; rfl⟩
    intro h16
    try have p16 := of_decide_eq_false h16
    refine c_skip ?_; refine hK6 _ _ ?_; clear hK6; refine c_region ?_; refine s_add _ H wn rfl rfl rfl (by omega) (by omega) rfl ?_; clear H; intro a H; refine s_move H wn rfl rfl ?_; clear H; intro a H; refine wl_nil ?_; refine loop_end ((k + 1, G16)) (by exact (H).sub ⟨rfl, rfl, rfl, rfl, trivial⟩) ?_ ?_
    · (try dsimp only); exact ⟨by omega, idx_next hk2 hno h16, fun b o h => hm16 b o (hgm b o h)⟩
    first | omega | (dsimp only; omega)
  intro h9
  try have p9 := of_decide_eq_false h9
  refine c_exit ?_; refine hK2 _ _ ?_; clear hK2; refine c_seqR (fun _ hK10 => ?_); refine s_assign H wn rfl rfl ?_; clear H; intro a H; refine hK10 _ _ ?_; clear hK10; refine c_ret ?_; refine (leave1 H Tryz.results186 (.cons (rv_tmp H rfl) .nil) ?_).1
  first
    | exact H.hp.retL ⟨rfl, by rw [idx_stop hk2 hno h16]; rfl⟩
    | exact H.hp.retL ⟨rfl, by rw [show l.take k = l from List.take_of_length_le (by omega)] at hno; rw [hno]; rfl⟩
theorem props_cells {G : GH} {l : List PropD} {xs : List Value} (h : RepCat G 2 (l.map PropD.dat) xs) : xs = dCells l := by
  obtain ⟨css, rfl, h2, h3⟩ := h; rw [List.length_map] at h2
  have e : css = l.map PropD.cells := by
    apply List.ext_getElem?
    intro j; rw [List.getElem?_map]
    by_cases hj : j < l.length
    · have h4 := (h3 j l[j].dat css[j] (by simp [hj]) (List.getElem?_eq_getElem (by omega))).1; rw [List.getElem?_eq_getElem hj, List.getElem?_eq_getElem (by omega), prop_of h4]; rfl
    rw [List.getElem?_eq_none (by omega), List.getElem?_eq_none (by omega)]; rfl
  rw [e]; rfl
theorem cloneOwn_spec {G : GH} {w0 : World} (hO : Owns G [] w0) (l : List PropD) (v : Value) (hv : RepV G (.sl 2 (l.map PropD.dat)) v) (hz : l.length ≤ 4294967296) :
    Calls Tryz.prog 98 #[v] w0 (RetL w0 G [] fun u G' L' => IsRow 40 2 u l.length (dCells l) L') := by
  obtain ⟨A, c, rfl, _, _, -⟩ := hv.slice; obtain ⟨hn, hc1, hc2, hnil, hx⟩ := hv.cells; rw [List.length_map] at *; refine enterL (N := 8) (T := [(0, _)]) Tryz.func98 rfl Tryz.ntmps98 rfl rfl hO ?_; intro a H; refine c_seqR (fun _ hK1 => ?_); refine s_assign H wn rfl rfl ?_; clear H; intro a H; refine hK1 _ _ ?_; clear hK1; refine c_seq (fun _ hK2 => ?_); refine c_seqR (fun _ hK3 => ?_); refine s_move H wn rfl rfl ?_; clear H; intro a H; refine s_eqnil un25run H wn rfl rfl ?_; clear H; intro a H; refine hK3 _ _ ?_; clear hK3; refine c_cond H rfl ?_ ?_
  · intro h4
    try have p4 := of_decide_eq_true h4
    refine c_seqR (fun _ hK4 => ?_); refine s_assign H wn rfl rfl ?_; clear H; intro a H; refine hK4 _ _ ?_; clear hK4; refine c_ret ?_; refine (leave1 H Tryz.results98 (.cons (rv_tmp H rfl) .nil) ?_).1
    have e : l = [] := by simpa using hnil (by simpa using h4)
    subst e; exact H.hp.retL IsRow.nil
  intro h4
  try have p4 := of_decide_eq_false h4
  refine c_skip ?_; refine hK2 _ _ ?_; clear hK2; refine c_seq (fun _ hK5 => ?_)
  have hA : ¬ A = none := by intro e; rw [e] at h4; cases h4
  refine c_region ?_; refine s_buildSlice0 un25run ty40run H wn rfl ?_; clear H; intro b5 a w hb5 H; refine s_move H wn rfl rfl ?_; clear H; intro a H
  by_cases hr0 : l = []
  · subst hr0; refine s_append0 un25run ty40run H wn rfl rfl (Nat.le_refl _) rfl ?_; clear H; intro a H; refine s_assign H wn rfl rfl ?_; clear H; intro a H; refine wl_nil ?_; refine hK5 _ _ ?_; clear hK5; refine c_ret ?_; refine (leave1 H Tryz.results98 (.cons (rv_tmp H rfl) .nil) ?_).1; exact H.hp.retL IsRow.empty
  obtain ⟨b, o, xs, rfl, hxl, hxc, hx1, hcat⟩ := hx (by simpa using hr0); obtain rfl := props_cells hcat; refine s_append (Li := []) (Lo := [_]) (news := dCells l) un25run ty40run rfl rfl H wn rfl rfl IsRow.empty hxl (fun j u hj => H.hp.gcell (hxc j u hj)) hx1 (by omega) (by omega) rfl ?_; clear H; intro v7 Lo a w hrow H; rw [Nat.zero_add, List.nil_append] at hrow; refine s_assign H wn rfl rfl ?_; clear H; intro a H; refine wl_nil ?_; refine hK5 _ _ ?_; clear hK5; refine c_ret ?_; refine (leave1 H Tryz.results98 (.cons (rv_tmp H rfl) .nil) ?_).1; exact H.hp.retL hrow
theorem pclone_spec {G : GH} {w0 : World} (hO : Owns G [] w0) (l : List PropD) (v : Value) (hv : RepV G (.sl 2 (l.map PropD.dat)) v) (hz : l.length ≤ 4294967296) :
    Calls Tryz.prog 111 #[v] w0 (RetL w0 G [] fun u G' L' => IsRow 40 2 u l.length (dCells l) L') := by
  obtain ⟨A, c, rfl, _, _, -⟩ := hv.slice; rw [List.length_map] at *; refine enterL (N := 5) (T := [(0, _)]) Tryz.func111 rfl Tryz.ntmps111 rfl rfl hO ?_; intro a H; refine c_seqR (fun _ hK1 => ?_); refine s_assign H wn rfl rfl ?_; clear H; intro a H; refine hK1 _ _ ?_; clear hK1; refine c_seqR (fun _ hK2 => ?_); refine s_move H wn rfl rfl ?_; clear H; intro a H; refine s_callL en98run (Li := []) (L := []) H wn rfl (cloneOwn_spec (Hp.owns (Li := []) H.hp) l _ hv hz) rfl ?_; clear H; rintro v4 G4 L4 a w hrw hm4 H; dsimp only [List.nil_append] at H; obtain ⟨A4, c4, rfl, -, -⟩ := hrw.shape; refine s_assign H wn rfl rfl ?_; clear H; intro a H; refine hK2 _ _ ?_; clear hK2; refine c_ret ?_; refine (leave1 H Tryz.results111 (.cons (rv_tmp H rfl) .nil) ?_).1; exact H.hp.retL hrw
theorem del_init {l : List PropD} {p : PropD → Bool} {i : Nat} (h : l.findIdx? p = some i) : ∃ hi : i < l.length, (l.take (i + 1)).filter (fun x => !p x) = l.take i := by
  obtain ⟨hi, h1, h2⟩ := List.findIdx?_eq_some_iff_getElem.1 h; refine ⟨hi, ?_⟩; rw [List.take_succ_eq_append_getElem hi, List.filter_append, List.filter_eq_self.2]
  · simp [h1]
  intro x hx; obtain ⟨j, hj, rfl⟩ := List.getElem_of_mem hx; rw [List.getElem_take]
  have hj2 : j < i := by rw [List.length_take] at hj; omega
  have := h2 j hj2
  simpa using this
theorem del_none {l : List PropD} {p : PropD → Bool} (h : l.findIdx? p = none) : l.filter (fun x => !p x) = l := by
  rw [List.findIdx?_eq_none_iff] at h
  exact List.filter_eq_self.2 fun x hx => by rw [h x hx]; rfl
theorem del_set {cl : List Value} {i : Nat} {x y : Value} (h : i * 2 + 2 ≤ cl.length) : (setRow cl (0 + i * 2) [x, y]).length = cl.length ∧ (setRow cl (0 + i * 2) [x, y]).take ((i + 1) * 2) = cl.take (i * 2) ++ [x, y] ∧ ∀ m, (i + 1) * 2 ≤ m → (setRow cl (0 + i * 2) [x, y])[m]? = cl[m]? := by
  have e : setRow cl (0 + i * 2) [x, y] = cl.take (i * 2) ++ [x, y] ++ cl.drop (i * 2 + 2) := by
    rw [Nat.zero_add, setRow_eq _ _ _ (by simpa using h)]; rfl
  have hl : (cl.take (i * 2) ++ [x, y]).length = (i + 1) * 2 := by rw [List.length_append, List.length_take]; simp; omega
  refine ⟨setRow_length .., ?_, fun m hm => ?_⟩
  · rw [e, ← hl, List.take_left]
  rw [e, List.getElem?_append_right (by omega), hl, List.getElem?_drop]; congr 1; omega
theorem del_base {l : List PropD} {cl : List Value} {i : Nat} (hi : i < l.length) (h : cl.take (l.length * 2) = dCells l) : cl.take (i * 2) = dCells (l.take i) := by
  have e : cl.take (i * 2) = (cl.take (l.length * 2)).take (i * 2) := by rw [List.take_take, Nat.min_eq_left (by omega)]
  have h2 : dCells l = dCells (l.take i) ++ dCells (l.drop i) := by rw [← dCells_append, List.take_append_drop]
  have h3 : (dCells (l.take i)).length = i * 2 := by rw [dCells_len, List.length_take]; omega
  rw [e, h, h2, ← h3, List.take_left]
theorem del_take {l : List PropD} {p : PropD → Bool} {j : Nat} (hj : j < l.length) : (l.take (j + 1)).filter (fun x => !p x) = (l.take j).filter (fun x => !p x) ++ if p l[j] then [] else [l[j]] := by
  rw [List.take_succ_eq_append_getElem hj, List.filter_append]
  cases h : p l[j] <;> simp [h]
set_option maxHeartbeats 1000000 in
theorem deleteProp_spec {G : GH} {w0 : World} {Lo : OL} {v fv : Value} (l : List PropD) (p : PropD → Bool) (hO : Owns G Lo w0) (hrw : IsRow 40 2 v l.length (dCells l) Lo) (hf : ∀ x ∈ l, Tester fv G x.dat (p x)) :
    Calls Tryz.prog 110 #[v, fv] w0 (RetL w0 G Lo fun u G' L' => IsRow 40 2 u (l.filter fun x => !p x).length (dCells (l.filter fun x => !p x)) L') := by
  obtain ⟨A, c, rfl, hc1, hc2⟩ := hrw.shape; have hml : maxLen = 9223372036854775807 := rfl; have hdl := dCells_len l; refine enterL (N := 42) (T := [(0, _), (1, _)]) Tryz.func110 rfl Tryz.ntmps110 rfl rfl hO ?_; intro a H; refine c_seqR (fun _ hK1 => ?_); refine s_assign H wn rfl rfl ?_; clear H; intro a H; refine hK1 _ _ ?_; clear hK1; refine c_seqR (fun _ hK2 => ?_); (iterate 2 refine s_move H wn rfl rfl ?_; clear H; intro a H); refine s_callL en186dlf (Li := []) (L := Lo) H wn rfl (indexProp_spec l p (Hp.owns (Li := []) H.hp) hrw hf) rfl ?_; clear H; rintro v10 G10 L10 a w ⟨rfl, rfl⟩ hm10 H; dsimp only [List.nil_append] at H; obtain ⟨o, ho⟩ : ∃ o, o = l.findIdx? p := ⟨_, rfl⟩; rw [← ho] at H; refine s_assign H wn rfl rfl ?_; clear H; intro a H; refine hK2 _ _ ?_; clear hK2; refine c_seq (fun _ hK3 => ?_); refine c_seqR (fun _ hK4 => ?_); refine s_move H wn rfl rfl ?_; clear H; intro a H; refine s_cmp H wn rfl rfl rfl rfl ?_; clear H; intro a H; refine hK4 _ _ ?_; clear hK4; refine c_cond H rfl ?_ ?_
  · intro h12
    try have p12 := of_decide_eq_true h12
    obtain rfl : o = none := by cases o with | none => rfl | some i => first | (simp [ixI] at p12; done) | (simp [ixI] at p12; omega)
    refine c_seqR (fun _ hK5 => ?_); refine s_move H wn rfl rfl ?_; clear H; intro a H; refine s_assign H wn rfl rfl ?_; clear H; intro a H; refine hK5 _ _ ?_; clear hK5; refine c_ret ?_; refine (leave1 H Tryz.results110 (.cons (rv_tmp H rfl) .nil) ?_).1; exact H.hp.retL (by rw [del_none ho.symm]; exact hrw)
  intro h12
  try have p12 := of_decide_eq_false h12
  obtain ⟨i0, rfl⟩ : ∃ i, o = some i := by cases o with | none => simp [ixI] at p12 | some i => exact ⟨i, rfl⟩
  obtain ⟨hi0, hinit⟩ := del_init ho.symm
  rcases hrw.2 with ⟨_, h0, _⟩ | ⟨b, cap, cur, he, rfl, hcap1, hcap2, hsz, htk⟩
  · omega
  injection he with e1 e2 e3
  subst e1; subst e3; obtain ⟨cl0, rfl⟩ : ∃ cl : List Value, cur = cl.toArray := ⟨cur.toList, by simp⟩; rw [List.size_toArray] at hsz; dsimp only [ixI] at H; refine c_skip ?_; refine hK3 _ _ ?_; clear hK3; refine c_seq (fun _ hK6 => ?_); refine c_seqR (fun _ hK7 => ?_); refine s_move H wn rfl rfl ?_; clear H; intro a H; refine s_add _ H wn rfl rfl rfl (by omega) (by omega) rfl ?_; clear H; intro a H; refine s_assign H wn rfl rfl ?_; clear H; intro a H; refine hK7 _ _ ?_; clear hK7; refine c_block ?_; skip; refine c_loopS (ι := Nat × Nat × List Value × GH) (Tc := [(0, _), (1, _)]) (Lc := []) (fun (gh : Nat × Nat × List Value × GH) => [(5, vi gh.2.1), (6, vi gh.1)]) (fun (gh : Nat × Nat × List Value × GH) => [(b, .cells gh.2.2.1.toArray 40 (0, 0))]) (fun (gh : Nat × Nat × List Value × GH) => gh.2.2.2) (fun (gh : Nat × Nat × List Value × GH) => gh.2.1 < gh.1 ∧ gh.1 ≤ l.length ∧ gh.2.2.1.length = c * 2 ∧ gh.2.1 = ((l.take gh.1).filter fun x => !p x).length ∧ gh.2.2.1.take (gh.2.1 * 2) = dCells ((l.take gh.1).filter fun x => !p x) ∧ (∀ m, gh.1 * 2 ≤ m → m < l.length * 2 → gh.2.2.1[m]? = (dCells l)[m]?) ∧ (∀ b o, G b = some o → gh.2.2.2 b = some o)) (fun (gh : Nat × Nat × List Value × GH) => l.length - gh.1) ((i0 + 1, i0, cl0, G10)) (by exact (H).sub ⟨rfl, rfl, rfl, rfl, trivial⟩) ?_ ?_
  · exact ⟨Nat.lt_succ_self _, hi0, hsz, by rw [hinit, List.length_take]; exact (Nat.min_eq_left (Nat.le_of_lt hi0)).symm, by rw [hinit]; exact del_base hi0 htk, fun m h1 h2 => by rw [← htk, List.getElem?_take, if_pos h2], hm10⟩
  clear H; intro gh a w hI H; obtain ⟨j, i, cl, g⟩ := gh; dsimp only at hI H; obtain ⟨hij, hj, hcl, hil, hkept, hrest, hgm⟩ := hI; dsimp only [List.cons_append, List.nil_append, List.append_nil] at H; refine c_seq (fun _ hK8 => ?_); refine c_seqR (fun _ hK9 => ?_); (iterate 2 refine s_move H wn rfl rfl ?_; clear H; intro a H); refine s_len un25run H wn rfl rfl ?_; clear H; intro a H; refine s_cmp H wn rfl rfl rfl rfl ?_; clear H; intro a H; refine hK9 _ _ ?_; clear hK9; refine c_cond H rfl ?_ ?_
  · intro h19
    try have p19 := of_decide_eq_true h19
    have hj2 : j < l.length := by omega
    have hjc : ∀ q u, [vi l[j].key, vi l[j].value][q]? = some u → cl.toArray[0 + j * 2 + q]? = some u := fun q u hq => by
      have hq2 : q < 2 := by have := (List.getElem?_eq_some_iff.1 hq).1; simpa using this
      rw [List.getElem?_toArray, Nat.zero_add, hrest _ (by omega) (by omega), dCells_get hj2 q hq2]; exact hq
    have hdt := del_take (p := p) hj2; refine c_skip ?_; refine hK8 _ _ ?_; clear hK8; refine c_seq (fun _ hK10 => ?_); refine c_block ?_; refine c_seqR (fun _ hK11 => ?_); (iterate 2 refine s_move H wn rfl rfl ?_; clear H; intro a H); refine s_index un25run ty40run _ H wn rfl rfl rfl (by first | assumption | omega) rfl ?_; clear H; intro a H; refine s_loada ty40run (cs := [vi l[j].key, vi l[j].value]) H wn rfl rfl (fun q u hq => H.hp.mcell (c := cl.toArray) List.mem_cons_self (hjc q u hq)) rfl ?_; clear H; intro a H; refine s_alloc ty40run H wn rfl ?_; clear H; intro b7 a w hb7 H; refine s_store ty40run 0 (vs := [_, _]) _ H wn rfl rfl rfl rfl rfl rfl rfl rfl ?_; clear H; intro w H; dsimp only [List.set, setRow] at H; refine hK11 _ _ ?_; clear hK11; refine c_seqR (fun _ hK12 => ?_); refine s_move H wn rfl rfl ?_; clear H; intro a H; refine s_loada ty40run (cs := [_, _]) H wn rfl rfl (H.hp.ocells 0 rfl rfl) rfl ?_; clear H; intro a H; refine s_callv0 H wn rfl rfl (hf _ (List.getElem_mem hj2) _ _ _ hgm H.hp.ro (prop_row _ l[j])) rfl ?_; clear H; rintro v28 G28 a w rfl hm28 H; refine s_not H wn rfl rfl ?_; clear H; intro a H; refine hK12 _ _ ?_; clear hK12; refine c_cond H rfl ?_ ?_
    · intro h29
      try have p29 := of_decide_eq_true h29
      rw [if_neg (by simpa using h29)] at hdt; have hds := del_set (cl := cl) (i := i) (x := vi l[j].key) (y := vi l[j].value) (by omega); refine c_seqR (fun _ hK13 => ?_); (iterate 2 refine s_move H wn rfl rfl ?_; clear H; intro a H); refine s_loada ty40run (cs := [_, _]) H wn rfl rfl (H.hp.ocells 0 rfl rfl) rfl ?_; clear H; intro a H; refine s_index un25run ty40run _ H wn rfl rfl rfl (by first | assumption | omega) rfl ?_; clear H; intro a H; refine s_store ty40run 1 (c := cl) (vs := [vi l[j].key, vi l[j].value]) _ H wn rfl rfl rfl rfl rfl rfl (Nat.ble_eq_true_of_le (by simp only [List.length_cons, List.length_nil]; omega)) rfl ?_; clear H; intro w H; dsimp only [List.set] at H; refine hK13 _ _ ?_; clear hK13; refine c_region ?_; refine s_move H wn rfl rfl ?_; clear H; intro a H; refine s_add _ H wn rfl rfl rfl (by omega) (by omega) rfl ?_; clear H; intro a H; refine s_assign H wn rfl rfl ?_; clear H; intro a H; refine wl_nil ?_; refine hK10 _ _ ?_; clear hK10; refine c_region ?_; refine s_move H wn rfl rfl ?_; clear H; intro a H; refine s_add _ H wn rfl rfl rfl (by omega) (by omega) rfl ?_; clear H; intro a H; refine s_assign H wn rfl rfl ?_; clear H; intro a H; refine wl_nil ?_; refine loop_end ((j + 1, i + 1, setRow cl (0 + i * 2) [vi l[j].key, vi l[j].value], G28)) (by exact (H.pickT (Pl := [_, _]) (Pl' := [_]) [1] (by decide) rfl).sub ⟨rfl, rfl, rfl, rfl, trivial⟩) ?_ ?_
      · (try dsimp only); exact ⟨by omega, by omega, by rw [hds.1, hcl], by rw [hdt, List.length_append, ← hil]; rfl, by rw [hdt, dCells_append, ← hkept, hds.2.1]; rfl, fun m h1 h2 => by rw [hds.2.2 m (by omega), hrest m (by omega) h2], fun b o h => hm28 b o (hgm b o h)⟩
      first | omega | (dsimp only; omega)
    intro h29
    try have p29 := of_decide_eq_false h29
    rw [if_pos (by simpa using h29), List.append_nil] at hdt; refine c_skip ?_; refine hK10 _ _ ?_; clear hK10; refine c_region ?_; refine s_move H wn rfl rfl ?_; clear H; intro a H; refine s_add _ H wn rfl rfl rfl (by omega) (by omega) rfl ?_; clear H; intro a H; refine s_assign H wn rfl rfl ?_; clear H; intro a H; refine wl_nil ?_; refine loop_end ((j + 1, i, cl, G28)) (by exact (H.pickT (Pl := [_, _]) (Pl' := [_]) [1] (by decide) rfl).sub ⟨rfl, rfl, rfl, rfl, trivial⟩) ?_ ?_
    · (try dsimp only); exact ⟨by omega, by omega, hcl, by rw [hdt]; exact hil, by rw [hdt]; exact hkept, fun m h1 h2 => hrest m (by omega) h2, fun b o h => hm28 b o (hgm b o h)⟩
    first | omega | (dsimp only; omega)
  intro h19
  try have p19 := of_decide_eq_false h19
  refine c_exit ?_; refine hK6 _ _ ?_; clear hK6; refine c_seqR (fun _ hK14 => ?_); (iterate 2 refine s_move H wn rfl rfl ?_; clear H; intro a H); refine s_sliceFrom un25run ty40run i H wn rfl rfl rfl (by omega) rfl ?_; clear H; intro a H; rw [if_neg (by omega), Option.map_some, add_lit] at H; refine s_clear un25run ty40run rfl rfl 0 H wn rfl rfl (by omega) (by omega) ?_; clear H; intro cz w hz1 hz2 H; dsimp only [List.set] at H; refine hK14 _ _ ?_; clear hK14; refine c_seqR (fun _ hK15 => ?_); (iterate 2 refine s_move H wn rfl rfl ?_; clear H; intro a H); refine s_sliceTo un25run ty40run i H wn rfl rfl rfl (by omega) rfl ?_; clear H; intro a H; refine s_assign H wn rfl rfl ?_; clear H; intro a H; refine hK15 _ _ ?_; clear hK15; refine c_ret ?_; refine (leave1 H Tryz.results110 (.cons (rv_tmp H rfl) .nil) ?_).1
  obtain rfl : j = l.length := by omega
  rw [List.take_length] at hil hkept; exact H.hp.retL ⟨dCells_len _, .inr ⟨b, c, cz.toArray, by rw [← hil], rfl, by omega, hcap2, by rw [List.size_toArray, hz1, hcl], by rw [← hkept, ← hil]; rw [Nat.zero_add] at hz2; exact hz2⟩⟩
end
section
open Go.RowKit
theorem en113txp : ∀ args w, (callFunc 113 args).run Tryz.prog w = .ok (.enter 113 args) w := enters Tryz.func113 rfl (by kernel_rfl)
theorem en111txp : ∀ args w, (callFunc 111 args).run Tryz.prog w = .ok (.enter 111 args) w := enters Tryz.func111 rfl (by kernel_rfl)
theorem en110txp : ∀ args w, (callFunc 110 args).run Tryz.prog w = .ok (.enter 110 args) w := enters Tryz.func110 rfl (by kernel_rfl)
theorem en43txp : ∀ args w, (callFunc 43 args).run Tryz.prog w = .ok (.enter 43 args) w := enters Tryz.func43 rfl (by kernel_rfl)
theorem en45txp : ∀ args w, (callFunc 45 args).run Tryz.prog w = .ok (.enter 45 args) w := enters Tryz.func45 rfl (by kernel_rfl)
theorem en46txp : ∀ args w, (callFunc 46 args).run Tryz.prog w = .ok (.enter 46 args) w := enters Tryz.func46 rfl (by kernel_rfl)
theorem en112txp : ∀ args w, (callFunc 112 args).run Tryz.prog w = .ok (.enter 112 args) w := enters Tryz.func112 rfl (by kernel_rfl)
theorem only1 {G : GH} {bg : Nat} {g : Int} (hb : gcell G bg 0 = some (vi g)) (x : PropD) : Tester (.func (.func 112) #[] #[.pointer (some ⟨bg, 0, none⟩)]) G x.dat (decide (¬ groupK x.key = g)) := by
  intro G1 w0 cs hm hG hr; refine callV_func (caps := [.pointer (some ⟨bg, 0, none⟩)]) en112txp ?_; obtain rfl := prop_of hr; replace hb := gcell_mono hm hb; refine enter (N := 15) (T := [(0, _), (1, _)]) (F := fun k => k < w0.heap.size) (L := []) Tryz.func112 rfl Tryz.ntmps112 rfl rfl hG (fun _ h => h) (fun _ h => by cases h) (fun _ h => by cases h) (fun _ h => by cases h) List.Pairwise.nil ?_; intro a H; refine c_seqR (fun _ hK1 => ?_); refine s_box (cs := [_, _]) H wn rfl rfl rfl ?_; clear H; intro b2 a w hb2 H; refine s_assign H wn rfl rfl ?_; clear H; intro a H; refine hK1 _ _ ?_; clear hK1; refine c_seqR (fun _ hK2 => ?_); refine s_field fd40_0prp H wn rfl rfl ?_; clear H; intro a H; refine s_load ty3run H wn rfl (H.hp.ocell 0 rfl rfl) rfl ?_; clear H; intro a H; refine s_call en113txp H wn rfl (group_spec _ _ H.hp.ro x.key) rfl ?_; clear H; rintro v9 G9 a w rfl hm9 H; replace hb := gcell_mono hm9 hb; refine s_move H wn rfl rfl ?_; clear H; intro a H; (iterate 2 refine s_extract H wn rfl rfl rfl ?_; clear H; intro a H); (iterate 2 refine s_assign H wn rfl rfl ?_; clear H; intro a H); refine hK2 _ _ ?_; clear hK2; refine c_seqR (fun _ hK3 => ?_); refine s_move H wn rfl rfl ?_; clear H; intro a H; refine s_load ty3run H wn rfl (H.hp.gcell (by assumption)) rfl ?_; clear H; intro a H; refine s_cmp H wn rfl rfl rfl rfl ?_; clear H; intro a H; refine s_assign H wn rfl rfl ?_; clear H; intro a H; refine hK3 _ _ ?_; clear hK3; refine c_ret ?_; refine (leave1 H Tryz.results112 (.cons (rv_tmp H rfl) .nil) ?_).1; exact H.hp.ret rfl
/-- The properties of a group. -/
def onlyS (l : List PropD) (g : Int) : List PropD := l.filter fun x => !decide (¬ groupK x.key = g)
theorem only_spec (G : GH) (w0 : World) (hG : Hold G w0) (l : List PropD) (g : Int) (v : Value) (hv : RepV G (.sl 2 (l.map PropD.dat)) v) (hz : l.length ≤ 4294967296) :
    Calls Tryz.prog 46 #[v, vi g] w0 (Ret w0 G fun u G' => RepV G' (.sl 2 ((onlyS l g).map PropD.dat)) u) := by
  obtain ⟨A, c, rfl, hc1, hc2, -⟩ := hv.slice; rw [List.length_map] at *; refine enter (N := 9) (T := [(0, _), (1, _)]) (F := fun k => k < w0.heap.size) (L := []) Tryz.func46 rfl Tryz.ntmps46 rfl rfl hG (fun _ h => h) (fun _ h => by cases h) (fun _ h => by cases h) (fun _ h => by cases h) List.Pairwise.nil ?_; intro a H; refine c_seqR (fun _ hK1 => ?_); refine s_box (cs := [_]) H wn rfl rfl rfl ?_; clear H; intro b3 a w hb3 H; refine s_assign H wn rfl rfl ?_; clear H; intro a H; refine hK1 _ _ ?_; clear hK1; refine c_seq (fun _ hK2 => ?_); obtain ⟨Ga, hma, hb3', H⟩ := H.giveBox
  have q3 : gcell Ga b3 0 = some (vi g) := by unfold gcell; rw [hb3']; rfl
  refine c_region ?_; refine s_move H wn rfl rfl ?_; clear H; intro a H; refine s_callL en111txp (Li := []) (L := []) H wn rfl (pclone_spec (Hp.owns (Li := []) H.hp) l _ (hv.mono hma) hz) rfl ?_; clear H; rintro v6 G6 L6 a w hrw hm6 H; dsimp only [List.nil_append] at H; obtain ⟨A6, c6, rfl, -, -⟩ := hrw.shape; replace q3 := gcell_mono hm6 q3; refine s_makeFunc H wn rfl rfl ?_; clear H; intro a H; refine s_callL en110txp (Li := []) (L := L6) H wn rfl (deleteProp_spec l (fun x => decide (¬ groupK x.key = g)) (Hp.owns (Li := []) H.hp) hrw (fun x _ => only1 q3 x)) rfl ?_; clear H; rintro v8 G8 L8 a w hrw8 hm8 H; dsimp only [List.nil_append] at H; obtain ⟨A8, c8, rfl, -, -⟩ := hrw8.shape; refine s_assign H wn rfl rfl ?_; clear H; intro a H; refine wl_nil ?_; refine hK2 _ _ ?_; clear hK2; refine c_ret ?_; obtain ⟨Gr, hmr, hrep, H⟩ := St.giveRow (Li := []) (Lo := L8) H hrw8 (rows := (onlyS l g).map PropD.dat) (by rw [List.length_map]; rfl) (props_cat _ _); refine (leave1 H Tryz.results46 (.cons (rv_tmp H rfl) .nil) ?_).1; exact H.hp.ret hrep
/-- The error of the effective character properties, and the properties. -/
def textE (l : List StyleD) (para own : List PropD) : Int :=
  if checkS l ≠ 0 then checkS l else if chkPS 2 para ≠ 0 then chkPS 2 para else if chkPS 1 own ≠ 0 then chkPS 1 own else if namedE l para 20 1 ≠ 0 then namedE l para 20 1 else namedE l own 1 2
def textS (l : List StyleD) (para own : List PropD) : List PropD := if textE l para own = 0 then onlyS (mergeS (mergeS (namedS l para 20 1) (namedS l own 1 2)) own) 1 else []
theorem effK_lenB {l : List StyleD} (B : Nat) (hB : ∀ s ∈ l, s.props.length ≤ B) (id : Int) : ∀ k, k ≤ (chL l id).length → (effK l id k).length ≤ k * B
  | 0, _ => by simp [effK]
  | k + 1, hk => by
    have h1 := effK_lenB B hB id k (by omega); have h2 := mergeS_len (chL l id)[k].props (effK l id k); have h3 := hB _ (chF_get (List.getElem_mem (show k < (chL l id).length by omega))); rw [effK_succ (by omega), Nat.succ_mul]
    omega
theorem namedS_len {l : List StyleD} (h : StyOk l) (hB : ∀ s ∈ l, s.props.length ≤ 4194304) (props : List PropD) (key kind : Int) : (namedS l props key kind).length ≤ 536870912 := by
  unfold namedS
  split
  · have h1 := effK_lenB _ hB (getK props key).1 _ (Nat.le_refl _); rw [effK_all] at h1; have h2 := h.acyc (getK props key).1; have h3 := h.len
    omega
  simp
theorem text_spec (G : GH) (w0 : World) (hG : Hold G w0) (l : List StyleD) (para own : List PropD) (v vp vo : Value) (hv : RepV G (.sl 6 (l.map StyleD.dat)) v) (hN : ∀ s ∈ l, s.name.size ≤ 4611686018427387904) (hP : ∀ s ∈ l, s.props.length ≤ 4194304)
    (hp : RepV G (.sl 2 (para.map PropD.dat)) vp) (ho : RepV G (.sl 2 (own.map PropD.dat)) vo) (hpl : para.length ≤ 16777216) (hol : own.length ≤ 16777216) :
    Calls Tryz.prog 13 #[v, vp, vo] w0 (Ret w0 G fun u G' => ∃ x, u = .tuple #[x, vi (textE l para own)] ∧ RepV G' (.sl 2 ((textS l para own).map PropD.dat)) x) := by
  obtain ⟨A, c, rfl, hc1, hc2, -⟩ := hv.slice; obtain ⟨B, cp, rfl, hd1, hd2, -⟩ := hp.slice; obtain ⟨C, co, rfl, he1, he2, -⟩ := ho.slice
  simp only [List.length_map] at hv hp ho hc1 hd1 he1 ⊢
  refine enter (N := 53) (T := [(0, _), (1, _), (2, _)]) (F := fun k => k < w0.heap.size) (L := []) Tryz.func13 rfl Tryz.ntmps13 rfl rfl hG (fun _ h => h) (fun _ h => by cases h) (fun _ h => by cases h) (fun _ h => by cases h) List.Pairwise.nil ?_; intro a H; refine c_seqR (fun _ hK1 => ?_); (iterate 2 refine s_assign H wn rfl rfl ?_; clear H; intro a H); refine hK1 _ _ ?_; clear hK1; refine c_seq (fun _ hK2 => ?_); refine c_seqR (fun _ hK3 => ?_); refine s_move H wn rfl rfl ?_; clear H; intro a H; refine s_call en43txp H wn rfl (check_styles _ _ H.hp.ro l _ hv hN) rfl ?_; clear H; rintro v15 G15 a w rfl hm15 H; refine s_assign H wn rfl rfl ?_; clear H; intro a H; refine hK3 _ _ ?_; clear hK3; refine c_seqR (fun _ hK4 => ?_); refine s_move H wn rfl rfl ?_; clear H; intro a H; refine s_cmp H wn rfl rfl rfl rfl ?_; clear H; intro a H; refine hK4 _ _ ?_; clear hK4; refine c_cond H rfl ?_ ?_
  · intro h17
    try have p17 := of_decide_eq_true h17
    refine c_seq (fun _ hK5 => ?_)
    have he : textE l para own = checkS l := by simp_all [textE]
    refine c_region ?_; refine s_move H wn rfl rfl ?_; clear H; intro a H; (iterate 2 refine s_assign H wn rfl rfl ?_; clear H; intro a H); refine wl_nil ?_; refine hK5 _ _ ?_; clear hK5; refine c_ret ?_; refine (leaveT H Tryz.results13 (.cons (rv_tmp H rfl) (.cons (rv_tmp H rfl) .nil)) ?_).1
    first
      | exact H.hp.ret ⟨_, by rw [he], by rw [textS, if_pos he]; exact hv52⟩
      | exact H.hp.ret ⟨_, by rw [he], by rw [textS, if_neg (by rw [he]; assumption)]; exact RepV.nil_ rfl (by decide)⟩
  intro h17
  try have p17 := of_decide_eq_false h17
  have hs0 : checkS l = 0 := by simpa using p17
  have hok := styOk hs0 fun s hs => Nat.le_trans (hP s hs) (by decide); refine c_skip ?_; refine hK2 _ _ ?_; clear hK2; refine c_seq (fun _ hK6 => ?_); refine c_seqR (fun _ hK7 => ?_); refine s_move H wn rfl rfl ?_; clear H; intro a H; refine s_call en44stz H wn rfl (propCheck_spec _ _ H.hp.ro 2 para _ (hp.mono hm15)) rfl ?_; clear H; rintro v20 G20 a w rfl hm20 H; refine s_assign H wn rfl rfl ?_; clear H; intro a H; refine hK7 _ _ ?_; clear hK7; refine c_seqR (fun _ hK8 => ?_); refine s_move H wn rfl rfl ?_; clear H; intro a H; refine s_cmp H wn rfl rfl rfl rfl ?_; clear H; intro a H; refine hK8 _ _ ?_; clear hK8; refine c_cond H rfl ?_ ?_
  · intro h22
    try have p22 := of_decide_eq_true h22
    refine c_seq (fun _ hK9 => ?_)
    have he : textE l para own = chkPS 2 para := by simp_all [textE]
    refine c_region ?_; refine s_move H wn rfl rfl ?_; clear H; intro a H; (iterate 2 refine s_assign H wn rfl rfl ?_; clear H; intro a H); refine wl_nil ?_; refine hK9 _ _ ?_; clear hK9; refine c_ret ?_; refine (leaveT H Tryz.results13 (.cons (rv_tmp H rfl) (.cons (rv_tmp H rfl) .nil)) ?_).1
    first
      | exact H.hp.ret ⟨_, by rw [he], by rw [textS, if_pos he]; exact hv52⟩
      | exact H.hp.ret ⟨_, by rw [he], by rw [textS, if_neg (by rw [he]; assumption)]; exact RepV.nil_ rfl (by decide)⟩
  intro h22
  try have p22 := of_decide_eq_false h22
  refine c_skip ?_; refine hK6 _ _ ?_; clear hK6; refine c_seq (fun _ hK10 => ?_); refine c_seqR (fun _ hK11 => ?_); refine s_move H wn rfl rfl ?_; clear H; intro a H; refine s_call en44stz H wn rfl (propCheck_spec _ _ H.hp.ro 1 own _ ((ho.mono hm15).mono hm20)) rfl ?_; clear H; rintro v25 G25 a w rfl hm25 H; refine s_assign H wn rfl rfl ?_; clear H; intro a H; refine hK11 _ _ ?_; clear hK11; refine c_seqR (fun _ hK12 => ?_); refine s_move H wn rfl rfl ?_; clear H; intro a H; refine s_cmp H wn rfl rfl rfl rfl ?_; clear H; intro a H; refine hK12 _ _ ?_; clear hK12; refine c_cond H rfl ?_ ?_
  · intro h27
    try have p27 := of_decide_eq_true h27
    refine c_seq (fun _ hK13 => ?_)
    have he : textE l para own = chkPS 1 own := by simp_all [textE]
    refine c_region ?_; refine s_move H wn rfl rfl ?_; clear H; intro a H; (iterate 2 refine s_assign H wn rfl rfl ?_; clear H; intro a H); refine wl_nil ?_; refine hK13 _ _ ?_; clear hK13; refine c_ret ?_; refine (leaveT H Tryz.results13 (.cons (rv_tmp H rfl) (.cons (rv_tmp H rfl) .nil)) ?_).1
    first
      | exact H.hp.ret ⟨_, by rw [he], by rw [textS, if_pos he]; exact hv52⟩
      | exact H.hp.ret ⟨_, by rw [he], by rw [textS, if_neg (by rw [he]; assumption)]; exact RepV.nil_ rfl (by decide)⟩
  intro h27
  try have p27 := of_decide_eq_false h27
  refine c_skip ?_; refine hK10 _ _ ?_; clear hK10; refine c_seqR (fun _ hK14 => ?_); (iterate 2 refine s_move H wn rfl rfl ?_; clear H; intro a H); refine s_call en45txp H wn rfl (named_spec _ _ H.hp.ro l para 20 1 _ _ (((hv.mono hm15).mono hm20).mono hm25) hok (((hp.mono hm15).mono hm20).mono hm25) (by omega)) rfl ?_; clear H; rintro v32 G32 a w ⟨x32, rfl, hx32⟩ hm32 H; obtain ⟨xA, xc, rfl, -, -, -⟩ := hx32.slice; refine s_move H wn rfl rfl ?_; clear H; intro a H; (iterate 2 refine s_extract H wn rfl rfl rfl ?_; clear H; intro a H); (iterate 2 refine s_assign H wn rfl rfl ?_; clear H; intro a H); refine hK14 _ _ ?_; clear hK14; refine c_seq (fun _ hK15 => ?_); refine c_seqR (fun _ hK16 => ?_); refine s_move H wn rfl rfl ?_; clear H; intro a H; refine s_cmp H wn rfl rfl rfl rfl ?_; clear H; intro a H; refine hK16 _ _ ?_; clear hK16; refine c_cond H rfl ?_ ?_
  · intro h36
    try have p36 := of_decide_eq_true h36
    refine c_seq (fun _ hK17 => ?_)
    have he : textE l para own = namedE l para 20 1 := by simp_all [textE]
    refine c_region ?_; refine s_move H wn rfl rfl ?_; clear H; intro a H; (iterate 2 refine s_assign H wn rfl rfl ?_; clear H; intro a H); refine wl_nil ?_; refine hK17 _ _ ?_; clear hK17; refine c_ret ?_; refine (leaveT H Tryz.results13 (.cons (rv_tmp H rfl) (.cons (rv_tmp H rfl) .nil)) ?_).1
    first
      | exact H.hp.ret ⟨_, by rw [he], by rw [textS, if_pos he]; exact hv52⟩
      | exact H.hp.ret ⟨_, by rw [he], by rw [textS, if_neg (by rw [he]; assumption)]; exact RepV.nil_ rfl (by decide)⟩
  intro h36
  try have p36 := of_decide_eq_false h36
  refine c_skip ?_; refine hK15 _ _ ?_; clear hK15; refine c_seqR (fun _ hK18 => ?_); (iterate 2 refine s_move H wn rfl rfl ?_; clear H; intro a H); refine s_call en45txp H wn rfl (named_spec _ _ H.hp.ro l own 1 2 _ _ ((((hv.mono hm15).mono hm20).mono hm25).mono hm32) hok ((((ho.mono hm15).mono hm20).mono hm25).mono hm32) (by omega)) rfl ?_; clear H; rintro v41 G41 a w ⟨x41, rfl, hx41⟩ hm41 H; obtain ⟨yA, yc, rfl, -, -, -⟩ := hx41.slice; refine s_move H wn rfl rfl ?_; clear H; intro a H; (iterate 2 refine s_extract H wn rfl rfl rfl ?_; clear H; intro a H); (iterate 2 refine s_assign H wn rfl rfl ?_; clear H; intro a H); refine hK18 _ _ ?_; clear hK18; refine c_seq (fun _ hK19 => ?_); refine c_seqR (fun _ hK20 => ?_); refine s_move H wn rfl rfl ?_; clear H; intro a H; refine s_cmp H wn rfl rfl rfl rfl ?_; clear H; intro a H; refine hK20 _ _ ?_; clear hK20; refine c_cond H rfl ?_ ?_
  · intro h45
    try have p45 := of_decide_eq_true h45
    refine c_seq (fun _ hK21 => ?_)
    have he : textE l para own = namedE l own 1 2 := by simp_all [textE]
    refine c_region ?_; refine s_move H wn rfl rfl ?_; clear H; intro a H; (iterate 2 refine s_assign H wn rfl rfl ?_; clear H; intro a H); refine wl_nil ?_; refine hK21 _ _ ?_; clear hK21; refine c_ret ?_; refine (leaveT H Tryz.results13 (.cons (rv_tmp H rfl) (.cons (rv_tmp H rfl) .nil)) ?_).1
    first
      | exact H.hp.ret ⟨_, by rw [he], by rw [textS, if_pos he]; exact hv52⟩
      | exact H.hp.ret ⟨_, by rw [he], by rw [textS, if_neg (by rw [he]; assumption)]; exact RepV.nil_ rfl (by decide)⟩
  intro h45
  try have p45 := of_decide_eq_false h45
  refine c_skip ?_; refine hK19 _ _ ?_; clear hK19; refine c_seq (fun _ hK22 => ?_)
  have he : textE l para own = 0 := by simp_all [textE]
  have h1 := namedS_len hok hP para 20 1; have h2 := namedS_len hok hP own 1 2; have h3 := mergeS_len (namedS l para 20 1) (namedS l own 1 2); have h4 := mergeS_len (mergeS (namedS l para 20 1) (namedS l own 1 2)) own; refine c_region ?_; (iterate 2 refine s_move H wn rfl rfl ?_; clear H; intro a H); refine s_call en47eff H wn rfl (merge_spec _ _ H.hp.ro (namedS l para 20 1) (namedS l own 1 2) _ _ (hx32.mono hm41) hx41 (by omega)) rfl ?_; clear H; rintro v49 G49 a w hv49 hm49 H; obtain ⟨zA, zc, rfl, -, -, -⟩ := hv49.slice; refine s_move H wn rfl rfl ?_; clear H; intro a H; refine s_call en47eff H wn rfl (merge_spec _ _ H.hp.ro (mergeS (namedS l para 20 1) (namedS l own 1 2)) own _ _ hv49 ((((((ho.mono hm15).mono hm20).mono hm25).mono hm32).mono hm41).mono hm49) (by omega)) rfl ?_; clear H; rintro v51 G51 a w hv51 hm51 H; obtain ⟨wA, wc, rfl, -, -, -⟩ := hv51.slice; refine s_call en46txp H wn rfl (only_spec _ _ H.hp.ro (mergeS (mergeS (namedS l para 20 1) (namedS l own 1 2)) own) 1 _ hv51 (by omega)) rfl ?_; clear H; rintro v52 G52 a w hv52 hm52 H; obtain ⟨tA, tc, rfl, -, -, -⟩ := hv52.slice; (iterate 2 refine s_assign H wn rfl rfl ?_; clear H; intro a H); refine wl_nil ?_; refine hK22 _ _ ?_; clear hK22; refine c_ret ?_; refine (leaveT H Tryz.results13 (.cons (rv_tmp H rfl) (.cons (rv_tmp H rfl) .nil)) ?_).1
  first
    | exact H.hp.ret ⟨_, by rw [he], by rw [textS, if_pos he]; exact hv52⟩
    | exact H.hp.ret ⟨_, by rw [he], by rw [textS, if_neg (by rw [he]; assumption)]; exact RepV.nil_ rfl (by decide)⟩
end
section
open Go.RowKit
theorem fd54_0chr : Fld Tryz.prog 54 0 0 := ⟨by kernel_rfl⟩
theorem en29chr : ∀ args w, (callFunc 29 args).run Tryz.prog w = .ok (.enter 29 args) w := enters Tryz.func29 rfl (by kernel_rfl)
theorem fd54_1chr : Fld Tryz.prog 54 1 1 := ⟨by kernel_rfl⟩
theorem en101chr : ∀ args w, (callFunc 101 args).run Tryz.prog w = .ok (.enter 101 args) w := enters Tryz.func101 rfl (by kernel_rfl)
theorem en102chr : ∀ args w, (callFunc 102 args).run Tryz.prog w = .ok (.enter 102 args) w := enters Tryz.func102 rfl (by kernel_rfl)
theorem en38chr : ∀ args w, (callFunc 38 args).run Tryz.prog w = .ok (.enter 38 args) w := enters Tryz.func38 rfl (by kernel_rfl)
theorem en42chr : ∀ args w, (callFunc 42 args).run Tryz.prog w = .ok (.enter 42 args) w := enters Tryz.func42 rfl (by kernel_rfl)
theorem fd50_3chr : Fld Tryz.prog 50 3 7 := ⟨by kernel_rfl⟩
theorem fd46_0chr : Fld Tryz.prog 46 0 0 := ⟨by kernel_rfl⟩
theorem en13chr : ∀ args w, (callFunc 13 args).run Tryz.prog w = .ok (.enter 13 args) w := enters Tryz.func13 rfl (by kernel_rfl)
/-- A block that has a mark, whose items are not cut. -/
structure BlkOk (l : List ItemD) (b : BlkD) (m : ItemD) : Prop where
  err : lenE l = 0
  ix : ∃ i, (blocksS l).findIdx? (fun x => decide (b = x)) = some i
  to_ : -1000 < b.to ∧ b.to < 1000
  r1 : rngS l b.from_ (endB b) = 0
  c1 : CutOk (endB b) l
  c2 : CutOk b.from_ (leftS (endB b) l)
  p1 : PlainL (rightS b.from_ (leftS (endB b) l))
  r2 : rngS l (endB b) b.to = 0
  c3 : CutOk b.to l
  c4 : CutOk (endB b) (leftS b.to l)
  p2 : PlainL (rightS (endB b) (leftS b.to l))
  mk_ : rightS (endB b) (leftS b.to l) = [m]
theorem ownMark_spec (G : GH) (w0 : World) (hG : Hold G w0) (l : List ItemD) (b : BlkD) (m : ItemD) (v : Value) (hv : RepV G (.sl 11 (l.map ItemD.dat)) v) (hz : zItems l ≤ 1073741824) (hb : BlkOk l b m) (hpl : m.head.props.length ≤ 4294967296) :
    Calls Tryz.prog 38 #[v, bkV b] w0 (Ret w0 G fun u G' => ∃ x, u = .tuple #[x, vi 0] ∧ RepV G' (.sl 2 (m.head.props.map PropD.dat)) x) := by
  obtain ⟨i, hi⟩ := hb.ix; refine enter (N := 30) (T := [(0, _), (1, _)]) (F := fun k => k < w0.heap.size) (L := []) Tryz.func38 rfl Tryz.ntmps38 rfl rfl hG (fun _ h => h) (fun _ h => by cases h) (fun _ h => by cases h) (fun _ h => by cases h) List.Pairwise.nil ?_; intro a H; refine c_seqR (fun _ hK1 => ?_); refine s_box (cs := [_, _, _, _]) H wn rfl rfl rfl ?_; clear H; intro b3 a w hb3 H; (iterate 2 refine s_assign H wn rfl rfl ?_; clear H; intro a H); refine hK1 _ _ ?_; clear hK1; refine c_seqR (fun _ hK2 => ?_); refine s_move H wn rfl rfl ?_; clear H; intro a H; refine s_loada ty91par (cs := [_, _, _, _]) H wn rfl rfl (H.hp.ocells 0 rfl rfl) rfl ?_; clear H; intro a H; refine s_call en96txt H wn rfl (parts_some _ _ H.hp.ro l b v hv hz hb.err i hi hb.to_ hb.r1 hb.c1 hb.c2 hb.p1 hb.r2 hb.c3 hb.c4 hb.p2) rfl ?_; clear H; rintro v12 G12 a w ⟨x, y, rfl, hx, hy⟩ hm12 H; obtain ⟨xA, xn, xc, rfl⟩ := hx.form; rw [hb.mk_] at hy; obtain ⟨yA, yc, rfl, hy1, hy2, hyg⟩ := hy.slice; obtain ⟨bm, om, pA, pn, pc, dA, dn, dc, zA, zn, zc, fA, fn, fc, rA, rn, rc, rfl, hrow, hhd, -, -⟩ := flow_get (l := [m]) (k := 0) (by simp) hyg
  simp only [List.getElem_cons_zero, List.length_map, List.length_singleton] at *
  have hpr := hhd.props; have hq := hrow 4 _ rfl; refine s_move H wn rfl rfl ?_; clear H; intro a H; (iterate 3 refine s_extract H wn rfl rfl rfl ?_; clear H; intro a H); (iterate 3 refine s_assign H wn rfl rfl ?_; clear H; intro a H); refine hK2 _ _ ?_; clear hK2; refine c_seq (fun _ hK3 => ?_); refine c_seqR (fun _ hK4 => ?_); refine s_move H wn rfl rfl ?_; clear H; intro a H; refine s_cmp H wn rfl rfl rfl rfl ?_; clear H; intro a H; refine s_move H wn rfl rfl ?_; clear H; intro a H; refine s_split H 18 rfl ?_ ?_
  · intro h18
    try have p18 := of_decide_eq_true h18
    exact absurd h18 (by decide)
  intro h18
  try have p18 := of_decide_eq_false h18
  refine s_move H (wg H rfl rfl h18) rfl rfl ?_; clear H; intro a H; refine s_len un32run H (wg H rfl rfl h18) rfl rfl ?_; clear H; intro a H; refine s_cmp H (wg H rfl rfl h18) rfl rfl rfl rfl ?_; clear H; intro a H; refine s_pick_f H wn rfl h18 rfl rfl ?_; clear H; intro a H; refine hK4 _ _ ?_; clear hK4; refine c_cond H rfl ?_ ?_
  · intro h22
    try have p22 := of_decide_eq_true h22
    simp_all
  intro h22
  try have p22 := of_decide_eq_false h22
  refine c_skip ?_; refine hK3 _ _ ?_; clear hK3; refine c_seqR (fun _ hK5 => ?_); refine s_move H wn rfl rfl ?_; clear H; intro a H; refine s_index un32run ty35run 0 H wn rfl rfl rfl (by decide) rfl ?_; clear H; intro a H; refine s_field fd35_4run H wn rfl rfl ?_; clear H; intro a H; refine s_field fd31_0run H wn rfl rfl ?_; clear H; intro a H; refine s_load ty25run H wn rfl (H.hp.gcell (by assumption)) rfl ?_; clear H; intro a H; refine s_call en98run H wn rfl (cloneProp_spec _ _ H.hp.ro _ _ _ _ hpr (by rw [List.length_map]; exact hpl)) rfl ?_; clear H; rintro v29 G29 a w hv29 hm29 H; obtain ⟨qA, qn, qc, rfl⟩ := hv29.form; (iterate 2 refine s_assign H wn rfl rfl ?_; clear H; intro a H); refine hK5 _ _ ?_; clear hK5; refine c_ret ?_; refine (leaveT H Tryz.results38 (.cons (rv_tmp H rfl) (.cons (rv_tmp H rfl) .nil)) ?_).1; exact H.hp.ret ⟨_, rfl, hv29⟩
theorem flowOf_zero (l : List ItemD) : flowOf l 0 = some l := rfl
/-- What is the item of a unit, and the block that has it. -/
structure AtOk (l : List ItemD) (t : Int) (b : BlkD) (m : ItemD) (i : Nat) (r : Int) : Prop where
  blk : BlkOk l b m
  at_ : atS l t = (b, 0)
  kind : b.kind = 1
  ri : rixS l t = ((i : Int), r, 0)
  lt : i < l.length
theorem pown_spec (G : GH) (w0 : World) (hG : Hold G w0) (D : DocV) (l : List ItemD) (t : Int) (b : BlkD) (m : ItemD) (i : Nat) (r : Int) (hv : RepV G (.sl 11 (l.map ItemD.dat)) (sl3 D.f)) (hz : zItems l ≤ 1073741824) (hb : AtOk l t b m i r) (hpl : m.head.props.length ≤ 4294967296) :
    Calls Tryz.prog 42 #[D.val, .agg #[vi 0, vi t]] w0 (Ret w0 G fun u G' => ∃ cs x, u = .tuple #[.agg cs.toArray, x, vi 0] ∧ RepRow G' (l[i]'hb.lt).dat cs ∧ RepV G' (.sl 2 (m.head.props.map PropD.dat)) x) := by
  have hlt := hb.lt; refine enter (N := 61) (T := [(0, _), (1, _)]) (F := fun k => k < w0.heap.size) (L := []) Tryz.func42 rfl Tryz.ntmps42 rfl rfl hG (fun _ h => h) (fun _ h => by cases h) (fun _ h => by cases h) (fun _ h => by cases h) List.Pairwise.nil ?_; intro a H; refine c_seqR (fun _ hK1 => ?_); refine s_box (cs := [_, _, _, _, _, _, _, _, _, _, _]) H wn rfl rfl rfl ?_; clear H; intro b2 a w hb2 H; refine s_box (cs := [_, _]) H wn rfl rfl rfl ?_; clear H; intro b3 a w hb3 H; refine s_alloc ty35run H wn rfl ?_; clear H; intro b4 a w hb4 H; (iterate 2 refine s_assign H wn rfl rfl ?_; clear H; intro a H); refine hK1 _ _ ?_; clear hK1; refine c_seqR (fun _ hK2 => ?_); refine s_loada ty50dq (cs := [_, _, _, _, _, _, _, _, _, _, _]) H wn rfl rfl (H.hp.ocells 2 rfl rfl) rfl ?_; clear H; intro a H; refine s_field fd54_0chr H wn rfl rfl ?_; clear H; intro a H; refine s_load ty3run H wn rfl (H.hp.ocell 1 rfl rfl) rfl ?_; clear H; intro a H; refine s_call en29chr H wn rfl (flow_spec _ _ H.hp.ro D l 0 hv (by omega)) rfl ?_; clear H; rintro v16 G16 a w ⟨x16, rfl, hx16⟩ hm16 H; rw [flowOf_zero] at H hx16; dsimp only [Option.isSome, Option.getD] at H hx16; obtain ⟨xA, xc, rfl, hx1, hx2, hxg⟩ := hx16.slice; rw [List.length_map] at *; obtain ⟨bm, om, pA, pn, pc, dA, dn, dc, zA, zn, zc, fA, fn, fc, rA, rn, rc, rfl, hrow, hhd, hf, hr⟩ := flow_get hlt hxg; refine s_move H wn rfl rfl ?_; clear H; intro a H; (iterate 2 refine s_extract H wn rfl rfl rfl ?_; clear H; intro a H); (iterate 2 refine s_assign H wn rfl rfl ?_; clear H; intro a H); refine hK2 _ _ ?_; clear hK2; refine c_seq (fun _ hK3 => ?_); refine c_seqR (fun _ hK4 => ?_); refine s_move H wn rfl rfl ?_; clear H; intro a H; refine s_not H wn rfl rfl ?_; clear H; intro a H; refine hK4 _ _ ?_; clear hK4; refine c_cond H rfl ?_ ?_
  · intro h20
    try have p20 := of_decide_eq_true h20
    exact absurd h20 (by decide)
  intro h20
  try have p20 := of_decide_eq_false h20
  refine c_skip ?_; refine hK3 _ _ ?_; clear hK3; refine c_seqR (fun _ hK5 => ?_); refine s_move H wn rfl rfl ?_; clear H; intro a H; refine s_field fd54_1chr H wn rfl rfl ?_; clear H; intro a H; refine s_load ty3run H wn rfl (H.hp.ocell 1 rfl rfl) rfl ?_; clear H; intro a H; refine s_call en101chr H wn rfl (at_spec _ _ H.hp.ro l t _ hx16 hz) rfl ?_; clear H; rintro v26 G26 a w rfl hm26 H; rw [hb.at_] at H; dsimp only [bkV] at H; refine s_move H wn rfl rfl ?_; clear H; intro a H; (iterate 2 refine s_extract H wn rfl rfl rfl ?_; clear H; intro a H); refine s_alloc ty91par H wn rfl ?_; clear H; intro b9 a w hb9 H; refine s_store ty91par 0 (vs := [_, _, _, _]) _ H wn rfl rfl rfl rfl rfl rfl rfl rfl ?_; clear H; intro w H; dsimp only [List.set, setRow] at H; refine s_assign H wn rfl rfl ?_; clear H; intro a H; refine hK5 _ _ ?_; clear hK5; refine c_seq (fun _ hK6 => ?_); refine c_seqR (fun _ hK7 => ?_); refine s_move H wn rfl rfl ?_; clear H; intro a H; refine s_cmp H wn rfl rfl rfl rfl ?_; clear H; intro a H; refine hK7 _ _ ?_; clear hK7; refine c_cond H rfl ?_ ?_
  · intro h30
    try have p30 := of_decide_eq_true h30
    exact absurd h30 (by decide)
  intro h30
  try have p30 := of_decide_eq_false h30
  refine c_skip ?_; refine hK6 _ _ ?_; clear hK6; refine c_seq (fun _ hK8 => ?_); refine c_seqR (fun _ hK9 => ?_); refine s_field fd91_0par H wn rfl rfl ?_; clear H; intro a H; refine s_load ty3run H wn rfl (H.hp.ocell 0 rfl rfl) rfl ?_; clear H; intro a H; refine s_cmp H wn rfl rfl rfl rfl ?_; clear H; intro a H; refine hK9 _ _ ?_; clear hK9; refine c_cond H rfl ?_ ?_
  · intro h35
    try have p35 := of_decide_eq_true h35
    simp_all [hb.kind]
  intro h35
  try have p35 := of_decide_eq_false h35
  refine c_skip ?_; refine hK8 _ _ ?_; clear hK8; refine c_seqR (fun _ hK10 => ?_); refine s_move H wn rfl rfl ?_; clear H; intro a H; refine s_field fd54_1chr H wn rfl rfl ?_; clear H; intro a H; refine s_load ty3run H wn rfl (H.hp.ocell 2 rfl rfl) rfl ?_; clear H; intro a H; refine s_call en102chr H wn rfl (rindex_spec _ _ H.hp.ro l t _ (hx16.mono hm26) hz) rfl ?_; clear H; rintro v41 G41 a w rfl hm41 H; rw [hb.ri] at H; dsimp only at H; refine s_move H wn rfl rfl ?_; clear H; intro a H; (iterate 3 refine s_extract H wn rfl rfl rfl ?_; clear H; intro a H); (iterate 3 refine s_assign H wn rfl rfl ?_; clear H; intro a H); refine hK10 _ _ ?_; clear hK10; refine c_seq (fun _ hK11 => ?_); refine c_seqR (fun _ hK12 => ?_); refine s_move H wn rfl rfl ?_; clear H; intro a H; refine s_cmp H wn rfl rfl rfl rfl ?_; clear H; intro a H; refine hK12 _ _ ?_; clear hK12; refine c_cond H rfl ?_ ?_
  · intro h46
    try have p46 := of_decide_eq_true h46
    exact absurd h46 (by decide)
  intro h46
  try have p46 := of_decide_eq_false h46
  refine c_skip ?_; refine hK11 _ _ ?_; clear hK11; refine c_seqR (fun _ hK13 => ?_); refine s_move H wn rfl rfl ?_; clear H; intro a H; refine s_loada ty91par (cs := [_, _, _, _]) H wn rfl rfl (H.hp.ocells 0 rfl rfl) rfl ?_; clear H; intro a H; refine s_call en38chr H wn rfl (ownMark_spec _ _ H.hp.ro l b m _ ((hx16.mono hm26).mono hm41) hz hb.blk hpl) rfl ?_; clear H; rintro v52 G52 a w ⟨x52, rfl, hx52⟩ hm52 H; obtain ⟨qA, qn, qc, rfl⟩ := hx52.form; refine s_move H wn rfl rfl ?_; clear H; intro a H; (iterate 2 refine s_extract H wn rfl rfl rfl ?_; clear H; intro a H); (iterate 2 refine s_assign H wn rfl rfl ?_; clear H; intro a H); refine hK13 _ _ ?_; clear hK13; refine c_seqR (fun _ hK14 => ?_); (iterate 2 refine s_move H wn rfl rfl ?_; clear H; intro a H); refine s_index un32run ty35run _ H wn rfl rfl rfl (by first | assumption | omega) rfl ?_; clear H; intro a H; refine s_loada ty35run (cs := _) H wn rfl rfl (fun j u hj => H.hp.gcell (gcell_mono hm52 (gcell_mono hm41 (gcell_mono hm26 (hrow j u hj))))) rfl ?_; clear H; intro a H; (iterate 2 refine s_move H wn rfl rfl ?_; clear H; intro a H); refine s_store ty35run 1 (vs := [_, _, _, _, _, _, _, _, _, _, _]) _ H wn rfl rfl rfl rfl rfl rfl rfl rfl ?_; clear H; intro w H; dsimp only [List.set, setRow] at H; (iterate 2 refine s_assign H wn rfl rfl ?_; clear H; intro a H); refine hK14 _ _ ?_; clear hK14; refine c_ret ?_; refine (leaveT H Tryz.results42 (.cons (rv_cella ty35run (cs := [_, _, _, _, _, _, _, _, _, _, _]) H rfl rfl (H.hp.ocells 1 rfl rfl)) (.cons (rv_tmp H rfl) (.cons (rv_tmp H rfl) .nil))) ?_).1; exact H.hp.ret ⟨_, _, rfl, ((RepRow.mkItem hhd hf hr).mono hm26 |>.mono hm41 |>.mono hm52), hx52⟩
/-- The properties of an item that its characters have. -/
def chrP (x : ItemD) : List PropD := if x.kind ≠ 2 ∧ x.kind ≠ 8 then x.head.props else []
theorem char_spec (G : GH) (w0 : World) (hG : Hold G w0) (D : DocV) (l : List ItemD) (ss : List StyleD) (t : Int) (b : BlkD) (m : ItemD) (i : Nat) (r : Int) (hv : RepV G (.sl 11 (l.map ItemD.dat)) (sl3 D.f)) (hz : zItems l ≤ 1073741824) (hb : AtOk l t b m i r)
    (hs : RepV G (.sl 6 (ss.map StyleD.dat)) (sl3 D.s1)) (hN : ∀ s ∈ ss, s.name.size ≤ 4611686018427387904) (hP : ∀ s ∈ ss, s.props.length ≤ 4194304) (hpl : m.head.props.length ≤ 16777216) (hol : (l[i]'hb.lt).head.props.length ≤ 16777216) :
    Calls Tryz.prog 12 #[D.val, .agg #[vi 0, vi t]] w0 (Ret w0 G fun u G' => ∃ x, u = .tuple #[x, vi (textE ss m.head.props (chrP (l[i]'hb.lt)))] ∧ RepV G' (.sl 2 ((textS ss m.head.props (chrP (l[i]'hb.lt))).map PropD.dat)) x) := by
  have hlt := hb.lt; refine enter (N := 39) (T := [(0, _), (1, _)]) (F := fun k => k < w0.heap.size) (L := []) Tryz.func12 rfl Tryz.ntmps12 rfl rfl hG (fun _ h => h) (fun _ h => by cases h) (fun _ h => by cases h) (fun _ h => by cases h) List.Pairwise.nil ?_; intro a H; refine c_seqR (fun _ hK1 => ?_); refine s_box (cs := [_, _, _, _, _, _, _, _, _, _, _]) H wn rfl rfl rfl ?_; clear H; intro b2 a w hb2 H; refine s_box (cs := [_, _]) H wn rfl rfl rfl ?_; clear H; intro b3 a w hb3 H; (iterate 2 refine s_assign H wn rfl rfl ?_; clear H; intro a H); refine hK1 _ _ ?_; clear hK1; refine c_seqR (fun _ hK2 => ?_); refine s_loada ty50dq (cs := [_, _, _, _, _, _, _, _, _, _, _]) H wn rfl rfl (H.hp.ocells 1 rfl rfl) rfl ?_; clear H; intro a H; refine s_loada ty54plc (cs := [_, _]) H wn rfl rfl (H.hp.ocells 0 rfl rfl) rfl ?_; clear H; intro a H; refine s_call en42chr H wn rfl (pown_spec _ _ H.hp.ro D l t b m i r hv hz hb (by omega)) rfl ?_; clear H; rintro v13 G13 a w ⟨cs, x13, rfl, hr13, hx13⟩ hm13 H; obtain ⟨pA, pn, pc, dA, dn, dc, zA, zn, zc, fA, fn, fc, rA, rn, rc, rfl, hhd, hf, hr⟩ := hr13.item; obtain ⟨xA, xn, xc, rfl⟩ := hx13.form; refine s_move H wn rfl rfl ?_; clear H; intro a H; (iterate 3 refine s_extract H wn rfl rfl rfl ?_; clear H; intro a H); refine s_alloc ty35run H wn rfl ?_; clear H; intro b6 a w hb6 H; refine s_store ty35run 0 (vs := [_, _, _, _, _, _, _, _, _, _, _]) _ H wn rfl rfl rfl rfl rfl rfl rfl rfl ?_; clear H; intro w H; dsimp only [List.set, setRow] at H; (iterate 2 refine s_assign H wn rfl rfl ?_; clear H; intro a H); refine hK2 _ _ ?_; clear hK2; refine c_seq (fun _ hK3 => ?_); refine c_seqR (fun _ hK4 => ?_); refine s_move H wn rfl rfl ?_; clear H; intro a H; refine s_cmp H wn rfl rfl rfl rfl ?_; clear H; intro a H; refine hK4 _ _ ?_; clear hK4; refine c_cond H rfl ?_ ?_
  · intro h18
    try have p18 := of_decide_eq_true h18
    exact absurd h18 (by decide)
  intro h18
  try have p18 := of_decide_eq_false h18
  refine c_skip ?_; refine hK3 _ _ ?_; clear hK3; refine c_seqR (fun _ hK5 => ?_); refine s_assign H wn rfl rfl ?_; clear H; intro a H; refine hK5 _ _ ?_; clear hK5; refine c_seq (fun _ hK6 => ?_); refine c_seqR (fun _ hK7 => ?_); refine s_field fd35_0run H wn rfl rfl ?_; clear H; intro a H; refine s_load ty3run H wn rfl (H.hp.ocell 0 rfl rfl) rfl ?_; clear H; intro a H; refine s_cmp H wn rfl rfl rfl rfl ?_; clear H; intro a H; refine s_move H wn rfl rfl ?_; clear H; intro a H; refine s_split H 23 rfl ?_ ?_
  · intro h23
    try have p23 := of_decide_eq_true h23
    refine s_field fd35_0run H (wg H rfl rfl h23) rfl rfl ?_; clear H; intro a H; refine s_load ty3run H (wg H rfl rfl h23) rfl (H.hp.ocell 0 rfl rfl) rfl ?_; clear H; intro a H; refine s_cmp H (wg H rfl rfl h23) rfl rfl rfl rfl ?_; clear H; intro a H; refine s_pick_t H wn rfl h23 rfl rfl ?_; clear H; intro a H; refine hK7 _ _ ?_; clear hK7; refine c_cond H rfl ?_ ?_
    · intro h27
      try have p27 := of_decide_eq_true h27
      refine c_region ?_; refine s_field fd35_4run H wn rfl rfl ?_; clear H; intro a H; refine s_field fd31_0run H wn rfl rfl ?_; clear H; intro a H; refine s_load ty25run H wn rfl (H.hp.ocell 0 rfl rfl) rfl ?_; clear H; intro a H; refine s_assign H wn rfl rfl ?_; clear H; intro a H; refine wl_nil ?_; refine hK6 _ _ ?_; clear hK6; refine c_seqR (fun _ hK8 => ?_); refine s_field fd50_3chr H wn rfl rfl ?_; clear H; intro a H; refine s_field fd46_0chr H wn rfl rfl ?_; clear H; intro a H; refine s_load ty41chn H wn rfl (H.hp.ocell 2 rfl rfl) rfl ?_; clear H; intro a H; (iterate 2 refine s_move H wn rfl rfl ?_; clear H; intro a H)
      refine s_call en13chr H wn rfl (text_spec _ _ H.hp.ro ss m.head.props (chrP l[i]) _ _ _ (hs.mono hm13) hN hP hx13 (by unfold chrP; first | (rw [if_pos ⟨by assumption, by assumption⟩]; exact hhd.props) | (rw [if_neg (fun h => by first | exact p23 h.1 | exact p27 h.2)]; exact RepV.nil_ rfl (by decide))) hpl (by unfold chrP; split <;> first | exact hol | exact Nat.zero_le _)) rfl ?_; clear H
      rintro v36 G36 a w ⟨x36, rfl, hx36⟩ hm36 H; obtain ⟨qA, qn, qc, rfl⟩ := hx36.form; (iterate 2 refine s_extract H wn rfl rfl rfl ?_; clear H; intro a H); (iterate 2 refine s_assign H wn rfl rfl ?_; clear H; intro a H); refine hK8 _ _ ?_; clear hK8; refine c_ret ?_; refine (leaveT H Tryz.results12 (.cons (rv_tmp H rfl) (.cons (rv_tmp H rfl) .nil)) ?_).1; exact H.hp.ret ⟨_, rfl, hx36⟩
    intro h27
    try have p27 := of_decide_eq_false h27
    refine c_skip ?_; refine hK6 _ _ ?_; clear hK6; refine c_seqR (fun _ hK9 => ?_); refine s_field fd50_3chr H wn rfl rfl ?_; clear H; intro a H; refine s_field fd46_0chr H wn rfl rfl ?_; clear H; intro a H; refine s_load ty41chn H wn rfl (H.hp.ocell 2 rfl rfl) rfl ?_; clear H; intro a H; (iterate 2 refine s_move H wn rfl rfl ?_; clear H; intro a H)
    refine s_call en13chr H wn rfl (text_spec _ _ H.hp.ro ss m.head.props (chrP l[i]) _ _ _ (hs.mono hm13) hN hP hx13 (by unfold chrP; first | (rw [if_pos ⟨by assumption, by assumption⟩]; exact hhd.props) | (rw [if_neg (fun h => by first | exact p23 h.1 | exact p27 h.2)]; exact RepV.nil_ rfl (by decide))) hpl (by unfold chrP; split <;> first | exact hol | exact Nat.zero_le _)) rfl ?_; clear H
    rintro v36 G36 a w ⟨x36, rfl, hx36⟩ hm36 H; obtain ⟨qA, qn, qc, rfl⟩ := hx36.form; (iterate 2 refine s_extract H wn rfl rfl rfl ?_; clear H; intro a H); (iterate 2 refine s_assign H wn rfl rfl ?_; clear H; intro a H); refine hK9 _ _ ?_; clear hK9; refine c_ret ?_; refine (leaveT H Tryz.results12 (.cons (rv_tmp H rfl) (.cons (rv_tmp H rfl) .nil)) ?_).1; exact H.hp.ret ⟨_, rfl, hx36⟩
  intro h23
  try have p23 := of_decide_eq_false h23
  (iterate 3 refine s_skip H rfl rfl h23 rfl ?_; clear H; intro a H); refine s_pick_f H wn rfl h23 rfl rfl ?_; clear H; intro a H; refine hK7 _ _ ?_; clear hK7; refine c_cond_f H rfl rfl ?_; refine c_skip ?_; refine hK6 _ _ ?_; clear hK6; refine c_seqR (fun _ hK10 => ?_); refine s_field fd50_3chr H wn rfl rfl ?_; clear H; intro a H; refine s_field fd46_0chr H wn rfl rfl ?_; clear H; intro a H; refine s_load ty41chn H wn rfl (H.hp.ocell 2 rfl rfl) rfl ?_; clear H; intro a H; (iterate 2 refine s_move H wn rfl rfl ?_; clear H; intro a H)
  refine s_call en13chr H wn rfl (text_spec _ _ H.hp.ro ss m.head.props (chrP l[i]) _ _ _ (hs.mono hm13) hN hP hx13 (by unfold chrP; first | (rw [if_pos ⟨by assumption, by assumption⟩]; exact hhd.props) | (rw [if_neg (fun h => by first | exact p23 h.1 | exact p27 h.2)]; exact RepV.nil_ rfl (by decide))) hpl (by unfold chrP; split <;> first | exact hol | exact Nat.zero_le _)) rfl ?_; clear H
  rintro v36 G36 a w ⟨x36, rfl, hx36⟩ hm36 H; obtain ⟨qA, qn, qc, rfl⟩ := hx36.form; (iterate 2 refine s_extract H wn rfl rfl rfl ?_; clear H; intro a H); (iterate 2 refine s_assign H wn rfl rfl ?_; clear H; intro a H); refine hK10 _ _ ?_; clear hK10; refine c_ret ?_; refine (leaveT H Tryz.results12 (.cons (rv_tmp H rfl) (.cons (rv_tmp H rfl) .nil)) ?_).1; exact H.hp.ret ⟨_, rfl, hx36⟩
end
section
open Go.RowKit
theorem ty46s17 : Ty Tryz.prog 46 4 96 [.slice none 0 0, .slice none 0 0, .slice none 0 0, .slice none 0 0] true := ⟨by kernel_rfl, by kernel_rfl⟩
theorem sr40s17 : Srt Tryz.prog 40 [(0, 1), (1, 1)] [.int .i64 0, .int .i64 0] := ⟨by kernel_rfl, by kernel_rfl⟩
theorem sr100s17 : Srt Tryz.prog 100 [(0, 1), (1, 1), (2, 1), (3, 1), (4, 1), (5, 1)] [.int .i64 0, .int .i64 0, .string ⟨#[]⟩, .int .i64 0, .int .i64 0, .slice none 0 0] := ⟨by kernel_rfl, by kernel_rfl⟩
theorem sr102s17 : Srt Tryz.prog 102 [(0, 1), (1, 1), (2, 1), (3, 1)] [.int .i64 0, .int .i64 0, .string ⟨#[]⟩, .int .i64 0] := ⟨by kernel_rfl, by kernel_rfl⟩
theorem un103s17 : Tryz.prog.underlying 103 = some (.slice 102) := by kernel_rfl
theorem ty102s17 : Ty Tryz.prog 102 4 40 [.int .i64 0, .int .i64 0, .string ⟨#[]⟩, .int .i64 0] true := ⟨by kernel_rfl, by kernel_rfl⟩
theorem sr105s17 : Srt Tryz.prog 105 [(0, 1), (1, 1)] [.int .i64 0, .slice none 0 0] := ⟨by kernel_rfl, by kernel_rfl⟩
theorem un42s17 : Tryz.prog.underlying 42 = some (.slice 105) := by kernel_rfl
theorem ty105s17 : Ty Tryz.prog 105 2 32 [.int .i64 0, .slice none 0 0] true := ⟨by kernel_rfl, by kernel_rfl⟩
theorem sr107s17 : Srt Tryz.prog 107 [(0, 1), (1, 1), (2, 1), (3, 1), (4, 1), (5, 1)] [.int .i64 0, .int .i64 0, .string ⟨#[]⟩, .int .i64 0, .string ⟨#[]⟩, .bool false] := ⟨by kernel_rfl, by kernel_rfl⟩
theorem un43s17 : Tryz.prog.underlying 43 = some (.slice 107) := by kernel_rfl
theorem ty107s17 : Ty Tryz.prog 107 6 64 [.int .i64 0, .int .i64 0, .string ⟨#[]⟩, .int .i64 0, .string ⟨#[]⟩, .bool false] true := ⟨by kernel_rfl, by kernel_rfl⟩
theorem sr109s17 : Srt Tryz.prog 109 [(0, 1), (1, 1)] [.string ⟨#[]⟩, .string ⟨#[]⟩] := ⟨by kernel_rfl, by kernel_rfl⟩
theorem un44s17 : Tryz.prog.underlying 44 = some (.slice 109) := by kernel_rfl
theorem ty109s17 : Ty Tryz.prog 109 2 32 [.string ⟨#[]⟩, .string ⟨#[]⟩] true := ⟨by kernel_rfl, by kernel_rfl⟩
theorem sr46s17 : Srt Tryz.prog 46 [(0, 1), (1, 1), (2, 1), (3, 1)] [.slice none 0 0, .slice none 0 0, .slice none 0 0, .slice none 0 0] := ⟨by kernel_rfl, by kernel_rfl⟩
theorem style_mk {G : GH} (x : StyleD) {v : Value} (h : RepV G (.sl 2 (x.props.map PropD.dat)) v) : RepRow G x.dat [vi x.id, vi x.kind, .string x.name, vi x.base, vi x.next, v] := by
  simp only [StyleD.dat, RepRow]
  exact ⟨_, _, rfl, by simp [RepV, Value.oneCell'], _, _, rfl, by simp [RepV, Value.oneCell'], _, _, rfl, by simp [RepV, Value.oneCell'], _, _, rfl, by simp [RepV, Value.oneCell'], _, _, rfl, by simp [RepV, Value.oneCell'], _, _, rfl, h, rfl⟩
def st17a : StyleD := ⟨1, 1, ⟨#[78, 111, 114, 109, 97, 108]⟩, 0, 0, [⟨5, 22⟩]⟩
def st17b : StyleD := ⟨2, 2, ⟨#[83, 116, 114, 111, 110, 103]⟩, 0, 0, [⟨2, 1⟩]⟩
def st17c : StyleD := ⟨3, 1, ⟨#[72, 101, 97, 100, 105, 110, 103, 32, 49]⟩, 1, 1, [⟨5, 32⟩, ⟨28, 1⟩, ⟨32, 1⟩]⟩
def st17d : StyleD := ⟨4, 1, ⟨#[72, 101, 97, 100, 105, 110, 103, 32, 50]⟩, 3, 1, [⟨32, 2⟩]⟩
def styles17 : List StyleD := [st17a, st17b, st17c, st17d]
abbrev stC (x : StyleD) (v : Value) : List Value := [vi x.id, vi x.kind, .string x.name, vi x.base, vi x.next, v]
def cs17 (a b c d : Value) : List (List Value) := [stC st17a a, stC st17b b, stC st17c c, stC st17d d]
theorem cs17_rep {G : GH} {a b c d : Value} (ha : RepV G (.sl 2 (st17a.props.map PropD.dat)) a) (hb : RepV G (.sl 2 (st17b.props.map PropD.dat)) b) (hc : RepV G (.sl 2 (st17c.props.map PropD.dat)) c) (hd : RepV G (.sl 2 (st17d.props.map PropD.dat)) d) : RepCat G 6 (styles17.map StyleD.dat) (cs17 a b c d).flatten := by
  refine ⟨cs17 a b c d, rfl, rfl, fun j q cs hr hc => ?_⟩
  match j, hr, hc with
  | 0, hr, hc => cases hr; cases hc; exact ⟨style_mk _ ha, rfl⟩
  | 1, hr, hc => cases hr; cases hc; exact ⟨style_mk _ hb, rfl⟩
  | 2, hr, hc => cases hr; cases hc; exact ⟨style_mk _ (by assumption), rfl⟩
  | 3, hr, hc => cases hr; cases hc; exact ⟨style_mk _ hd, rfl⟩
  | n + 4, hr, hc => cases hc
theorem props_lit {G : GH} {b : Nat} (l : List PropD) (h : G b = some (.cells (dCells l).toArray 40 (0, 0))) (hl : l.length ≤ maxLen) : RepV G (.sl 2 (l.map PropD.dat)) (.slice (some ⟨b, 0, none⟩) l.length l.length) :=
  RepV.of_row h (by simp) (Nat.le_refl _) hl (List.take_of_length_le (by simp [dCells_len])) (props_cat G l)
theorem settings17_spec (G : GH) (w0 : World) (hG : Hold G w0) : Calls Tryz.prog 11 #[] w0 (Ret w0 G fun u G' => ∃ s1 s2 s3 s4, u = .agg #[sl3 s1, sl3 s2, sl3 s3, sl3 s4] ∧ RepV G' (.sl 6 (styles17.map StyleD.dat)) (sl3 s1)) := by
  refine enter (N := 30) (T := []) (F := fun k => k < w0.heap.size) (L := []) Tryz.func11 rfl Tryz.ntmps11 rfl rfl hG (fun _ h => h) (fun _ h => by cases h) (fun _ h => by cases h) (fun _ h => by cases h) List.Pairwise.nil ?_; intro a H; refine c_seqR (fun _ hK1 => ?_); refine s_alloc ty46s17 H wn rfl ?_; clear H; intro b0 a w hb0 H; refine hK1 _ _ ?_; clear hK1; refine c_seqR (fun _ hK2 => ?_); refine s_build sr40s17 [_, _] H wn rfl rfl rfl rfl ?_; clear H; intro a H; refine s_buildSlice un25run ty40run [_, _] [_, _] H wn rfl rfl rfl rfl rfl (by intro i q h; match i, h with | 0, h => exact h | n + 1, h => simp at h) rfl rfl ?_; clear H; intro b2 a w hb2 H; refine s_build sr100s17 [_, _, _, _, _, _] H wn rfl rfl rfl rfl ?_; clear H; intro a H; refine s_build sr40s17 [_, _] H wn rfl rfl rfl rfl ?_; clear H; intro a H; refine s_buildSlice un25run ty40run [_, _] [_, _] H wn rfl rfl rfl rfl rfl (by intro i q h; match i, h with | 0, h => exact h | n + 1, h => simp at h) rfl rfl ?_; clear H; intro b5 a w hb5 H; refine s_build sr100s17 [_, _, _, _, _, _] H wn rfl rfl rfl rfl ?_; clear H; intro a H; (iterate 3 refine s_build sr40s17 [_, _] H wn rfl rfl rfl rfl ?_; clear H; intro a H); refine s_buildAll un25run ty40run [[vi 5, vi 32], [vi 28, vi 1], [vi 32, vi 1]] H wn rfl rfl rfl rfl rfl rfl rfl ?_; clear H; intro b10 a w hb10 H; refine s_build sr100s17 [_, _, _, _, _, _] H wn rfl rfl rfl rfl ?_; clear H; intro a H; refine s_build sr40s17 [_, _] H wn rfl rfl rfl rfl ?_; clear H; intro a H; refine s_buildSlice un25run ty40run [_, _] [_, _] H wn rfl rfl rfl rfl rfl (by intro i q h; match i, h with | 0, h => exact h | n + 1, h => simp at h) rfl rfl ?_; clear H; intro b13 a w hb13 H; refine s_build sr100s17 [_, _, _, _, _, _] H wn rfl rfl rfl rfl ?_; clear H; intro a H; refine s_buildAll un41sty ty100sty (cs17 (.slice (some ⟨b2, 0, none⟩) 1 1) (.slice (some ⟨b5, 0, none⟩) 1 1) (.slice (some ⟨b10, 0, none⟩) 3 3) (.slice (some ⟨b13, 0, none⟩) 1 1)) H wn rfl rfl rfl rfl rfl rfl rfl ?_; clear H; intro b15 a w hb15 H; (iterate 2 refine s_build sr102s17 [_, _, _, _] H wn rfl rfl rfl rfl ?_; clear H; intro a H); refine s_buildSlice un103s17 ty102s17 [_, _, _, _, _, _, _, _] [_, _, _, _, _, _, _, _] H wn rfl rfl rfl rfl rfl (by intro i q h; match i, h with | 0, h => exact h | 1, h => exact h | n + 2, h => simp at h) rfl rfl ?_; clear H; intro b18 a w hb18 H; refine s_build sr105s17 [_, _] H wn rfl rfl rfl rfl ?_; clear H; intro a H; refine s_build sr102s17 [_, _, _, _] H wn rfl rfl rfl rfl ?_; clear H; intro a H; refine s_buildSlice un103s17 ty102s17 [_, _, _, _] [_, _, _, _] H wn rfl rfl rfl rfl rfl (by intro i q h; match i, h with | 0, h => exact h | n + 1, h => simp at h) rfl rfl ?_; clear H; intro b21 a w hb21 H; refine s_build sr105s17 [_, _] H wn rfl rfl rfl rfl ?_; clear H; intro a H; refine s_buildSlice un42s17 ty105s17 [_, _, _, _] [_, _, _, _] H wn rfl rfl rfl rfl rfl (by intro i q h; match i, h with | 0, h => exact h | 1, h => exact h | n + 2, h => simp at h) rfl rfl ?_; clear H; intro b23 a w hb23 H; refine s_build sr107s17 [_, _, _, _, _, _] H wn rfl rfl rfl rfl ?_; clear H; intro a H; refine s_buildSlice un43s17 ty107s17 [_, _, _, _, _, _] [_, _, _, _, _, _] H wn rfl rfl rfl rfl rfl (by intro i q h; match i, h with | 0, h => exact h | n + 1, h => simp at h) rfl rfl ?_; clear H; intro b25 a w hb25 H; (iterate 2 refine s_build sr109s17 [_, _] H wn rfl rfl rfl rfl ?_; clear H; intro a H); refine s_buildSlice un44s17 ty109s17 [_, _, _, _] [_, _, _, _] H wn rfl rfl rfl rfl rfl (by intro i q h; match i, h with | 0, h => exact h | 1, h => exact h | n + 2, h => simp at h) rfl rfl ?_; clear H; intro b28 a w hb28 H; refine s_build sr46s17 [_, _, _, _] H wn rfl rfl rfl rfl ?_; clear H; intro a H; refine s_store ty46s17 10 (vs := [_, _, _, _]) _ H wn rfl rfl rfl rfl rfl rfl rfl rfl ?_; clear H; intro w H; dsimp only [List.set, setRow] at H; obtain ⟨G1, m1, -, H⟩ := H.giveBox; obtain ⟨G2, m2, -, H⟩ := H.giveBox; obtain ⟨G3, m3, -, H⟩ := H.giveBox; obtain ⟨G4, m4, -, H⟩ := H.giveBox; obtain ⟨G5, m5, -, H⟩ := H.giveBox; obtain ⟨G6, m6, h15, H⟩ := H.giveBox; obtain ⟨G7, m7, h13, H⟩ := H.giveBox; obtain ⟨G8, m8, h10, H⟩ := H.giveBox; obtain ⟨G9, m9, h5, H⟩ := H.giveBox; obtain ⟨Ga, ma, h2, H⟩ := H.giveBox; have q13 := ma _ _ (m9 _ _ (m8 _ _ h13)); have q10 := ma _ _ (m9 _ _ h10); have q5 := ma _ _ h5; have q15 := ma _ _ (m9 _ _ (m8 _ _ (m7 _ _ h15))); refine hK2 _ _ ?_; clear hK2; refine c_ret ?_; refine (leave1 H Tryz.results11 (.cons (rv_cella ty46s17 (cs := [_, _, _, _]) H rfl rfl (H.hp.ocells 0 rfl rfl)) .nil) ?_).1; exact H.hp.ret ⟨(some ⟨b15, 0, none⟩, 4, 4), (_, _, _), (_, _, _), (_, _, _), rfl, RepV.of_row (n := 4) (cap := 4) q15 rfl (Nat.le_refl _) (show 4 ≤ maxLen by decide) (List.take_of_length_le (Nat.le_refl _)) (cs17_rep (props_lit st17a.props h2 (by decide)) (props_lit st17b.props q5 (by decide)) (props_lit st17c.props q10 (by decide)) (props_lit st17d.props q13 (by decide)))⟩
end
section
open Go.RowKit
theorem chk17 : checkS styles17 = 0 := by kernel_rfl
def mk17 (i : Int) : List PropD := if 0 < i then [⟨20, i⟩] else []
def pl17 (i : Int) : List PropD := if i = 0 then [] else if i = 1 then [⟨5, 22⟩] else [⟨5, 32⟩]
theorem txE0 (i : Int) (hi : i = 0 ∨ i = 1 ∨ i = 3 ∨ i = 4) : textE styles17 (mk17 i) [] = 0 := by
  rcases hi with rfl | rfl | rfl | rfl <;> kernel_rfl
theorem chkSize (z : Int) (h : 2 ≤ z ∧ z ≤ 257) : chkPS 1 [⟨5, z⟩] = 0 := by
  have h1 : fitsS 1 5 = true := by decide
  have h2 : (findK 5).2 = true := by decide
  have h3 : (findK 5).1.low ≤ 2 := by decide
  have h4 : 257 ≤ (findK 5).1.high := by decide
  have h5 : chkVS 5 z = 0 := by
    rw [chkVS, if_neg (by rw [h2]; decide), if_neg (by omega)]
  simp [chkPS, chkP, h1, h5, ltB]
theorem txE5 (i z : Int) (hi : i = 0 ∨ i = 1 ∨ i = 3 ∨ i = 4) (hz : 2 ≤ z ∧ z ≤ 257) : textE styles17 (mk17 i) [⟨5, z⟩] = 0 := by
  have h1 := chkSize z hz
  have h2 : namedE styles17 [⟨5, z⟩] 1 2 = 0 := by kernel_rfl
  rw [textE, if_neg (by rw [chk17]; decide), if_neg (by rcases hi with rfl | rfl | rfl | rfl <;> decide), if_neg (by rw [h1]; decide), if_neg (by rcases hi with rfl | rfl | rfl | rfl <;> decide), h2]
theorem mem17 (i z : Int) (hi : i = 0 ∨ i = 1 ∨ i = 3 ∨ i = 4) (hz : 2 ≤ z ∧ z ≤ 257) : (⟨5, z⟩ : PropD) ∈ textS styles17 (mk17 i) [⟨5, z⟩] := by
  rw [textS, if_pos (txE5 i z hi hz)]
  have h : onlyS (mergeS (mergeS (namedS styles17 (mk17 i) 20 1) (namedS styles17 [⟨5, z⟩] 1 2)) [⟨5, z⟩]) 1 = [⟨5, z⟩] := by
    rcases hi with rfl | rfl | rfl | rfl <;> kernel_rfl
  rw [h]; exact List.mem_cons_self
end
section
open Go.RowKit
theorem un93sec : Tryz.prog.underlying 93 = some (.slice 98) := by kernel_rfl
theorem ty98sec : Ty Tryz.prog 98 4 48 [.int .i64 0, .int .i64 0, .bool false, .slice none 0 0] true := ⟨by kernel_rfl, by kernel_rfl⟩
theorem sr98sec : Srt Tryz.prog 98 [(0, 1), (1, 1), (2, 1), (3, 1)] [.int .i64 0, .int .i64 0, .bool false, .slice none 0 0] := ⟨by kernel_rfl, by kernel_rfl⟩
theorem fd50_1sec : Fld Tryz.prog 50 1 1 := ⟨by kernel_rfl⟩
structure PartD where
  from_ : Int
  to : Int
  mark : Bool
  props : List PropD
def PartD.dat (a : PartD) : List Dat := [li a.from_, li a.to, .lf (.bool a.mark), .sl 2 (a.props.map PropD.dat)]
theorem part_row {G : GH} (a : PartD) {v : Value} (h : RepV G (.sl 2 (a.props.map PropD.dat)) v) : RepRow G a.dat [vi a.from_, vi a.to, .bool a.mark, v] := by
  simp only [PartD.dat, RepRow]
  exact ⟨_, _, rfl, by simp [RepV, Value.oneCell'], _, _, rfl, by simp [RepV, Value.oneCell'], _, _, rfl, by simp [RepV, Value.oneCell'], _, _, rfl, h, rfl⟩
theorem part_of {G : GH} {a : PartD} {cs : List Value} (h : RepRow G a.dat cs) : ∃ A n c, cs = [vi a.from_, vi a.to, .bool a.mark, .slice A n c] := by
  simp only [PartD.dat, RepRow] at h
  obtain ⟨v1, _, rfl, h1, v2, _, rfl, h2, v3, _, rfl, h3, v4, _, rfl, h4, rfl⟩ := h
  simp only [RepV] at h1 h2 h3
  obtain ⟨rfl, -⟩ := h1; obtain ⟨rfl, -⟩ := h2; obtain ⟨rfl, -⟩ := h3; obtain ⟨A, n, c, rfl⟩ := h4.form; exact ⟨A, n, c, rfl⟩
/-- The sections of a flow from an item on. -/
def secS (e : List PropD) : Int → Int → List ItemD → List PartD
  | fr, at_, [] => [⟨fr, at_, false, e⟩]
  | fr, at_, x :: l => if x.kind = 3 then ⟨fr, at_ + n1 x, true, x.head.props⟩ :: secS e (at_ + n1 x) (at_ + n1 x) l else secS e fr (at_ + n1 x) l
theorem secS_len (e : List PropD) : ∀ (l : List ItemD) (fr at_ : Int), (secS e fr at_ l).length ≤ l.length + 1
  | [], _, _ => by simp [secS]
  | x :: l, fr, at_ => by
    rw [secS]
    split
    · have := secS_len e l (at_ + n1 x) (at_ + n1 x); simp only [List.length_cons]; omega
    have := secS_len e l fr (at_ + n1 x); simp only [List.length_cons]; omega
theorem sections_spec (G : GH) (w0 : World) (hG : Hold G w0) (D : DocV) (l : List ItemD) (ep : List PropD) (hv : RepV G (.sl 11 (l.map ItemD.dat)) (sl3 D.f)) (hep : RepV G (.sl 2 (ep.map PropD.dat)) (sl3 D.p)) (hz : zItems l ≤ 1073741824) (hel : ep.length ≤ 1073741824) :
    Calls Tryz.prog 39 #[D.val] w0 (Ret w0 G fun u G' => RepV G' (.sl 4 ((secS ep 0 0 l).map PartD.dat)) u) := by
  obtain ⟨⟨fA, fn, fc⟩, ⟨pA, pn, pc⟩, ⟨dA, dn, dc⟩, ⟨yA, yn, yc⟩, r, s1, s2, s3, s4, ins, move⟩ := D
  have hn : fn = l.length := by have := hv.len; rw [List.length_map] at this; exact this
  subst hn; obtain ⟨A, c, he, hc1, hc2, hg⟩ := hv.slice
  injection he with e1 e2 e3
  subst e1 e3; rw [List.length_map] at *; have hll := zItems_length l; have hsl := secS_len ep l 0 0
  have hml : 4294967297 ≤ maxLen := by decide
  refine enter (N := 44) (T := [(0, _)]) (F := fun k => k < w0.heap.size) (L := []) Tryz.func39 rfl Tryz.ntmps39 rfl rfl hG (fun _ h => h) (fun _ h => by cases h) (fun _ h => by cases h) (fun _ h => by cases h) List.Pairwise.nil ?_; intro a H; refine c_seqR (fun _ hK1 => ?_); refine s_box (cs := [_, _, _, _, _, _, _, _, _, _, _]) H wn rfl rfl rfl ?_; clear H; intro b1 a w hb1 H; refine s_assign H wn rfl rfl ?_; clear H; intro a H; refine hK1 _ _ ?_; clear hK1; refine c_seqR (fun _ hK2 => ?_); refine s_assign H wn rfl rfl ?_; clear H; intro a H; refine hK2 _ _ ?_; clear hK2; refine c_seqR (fun _ hK3 => ?_); (iterate 2 refine s_assign H wn rfl rfl ?_; clear H; intro a H); refine hK3 _ _ ?_; clear hK3; refine c_seq (fun _ hK4 => ?_); refine c_seqR (fun _ hK5 => ?_); refine s_field fd50_0doc H wn rfl rfl ?_; clear H; intro a H; refine s_load ty32run H wn rfl (H.hp.ocell 0 rfl rfl) rfl ?_; clear H; intro a H; refine s_len un32run H wn rfl rfl ?_; clear H; intro a H; refine s_move H wn rfl rfl ?_; clear H; intro a H; refine hK5 _ _ ?_; clear hK5; refine c_block ?_; skip; refine c_loopS (ι := Nat × Int × Int × List PartD × Value × List Value × OL × GH) (Tc := [(1, _), (9, _), (10, _)]) (Lc := [(_, _)]) (fun (gh : Nat × Int × Int × List PartD × Value × List Value × OL × GH) => [(3, gh.2.2.2.2.1), (4, vi gh.2.1), (5, vi gh.2.2.1), (11, vi gh.1)]) (fun (gh : Nat × Int × Int × List PartD × Value × List Value × OL × GH) => [] ++ gh.2.2.2.2.2.2.1) (fun (gh : Nat × Int × Int × List PartD × Value × List Value × OL × GH) => gh.2.2.2.2.2.2.2) (fun (gh : Nat × Int × Int × List PartD × Value × List Value × OL × GH) => gh.1 ≤ l.length ∧ IsRow 98 4 gh.2.2.2.2.1 gh.2.2.2.1.length gh.2.2.2.2.2.1 gh.2.2.2.2.2.2.1 ∧ RepCat gh.2.2.2.2.2.2.2 4 (gh.2.2.2.1.map PartD.dat) gh.2.2.2.2.2.1 ∧ (∀ b o, G b = some o → gh.2.2.2.2.2.2.2 b = some o) ∧ gh.2.2.2.1 ++ secS ep gh.2.1 gh.2.2.1 (l.drop gh.1) = secS ep 0 0 l ∧ 0 ≤ gh.2.2.1 ∧ gh.2.2.1 + zItems (l.drop gh.1) ≤ 1073741824) (fun (gh : Nat × Int × Int × List PartD × Value × List Value × OL × GH) => l.length - gh.1) ((0, 0, 0, [], .slice none 0 0, [], [], G)) (by exact (H).sub ⟨rfl, rfl, rfl, rfl, rfl, rfl, rfl, trivial⟩) ?_ ?_
  · exact ⟨by omega, IsRow.nil, RepCat.nil, fun _ _ h => h, by simp, Int.le_refl _, by simp; omega⟩
  clear H; intro gh a w hI H; obtain ⟨k, fr, at_, B, v, xs, Lo, g⟩ := gh; dsimp only at hI H; obtain ⟨hk, hrw, hcat, hgm, heq, hat0, hat⟩ := hI
  have hbl : B.length ≤ 1073741825 := by have := congrArg List.length heq; rw [List.length_append] at this; omega
  dsimp only [List.cons_append, List.nil_append, List.append_nil] at H; refine c_seqR (fun _ hK6 => ?_); refine s_cmp H wn rfl rfl rfl rfl ?_; clear H; intro a H; refine hK6 _ _ ?_; clear hK6; refine c_seq (fun _ hK7 => ?_); refine c_cond H rfl ?_ ?_
  · intro h12
    try have p12 := of_decide_eq_true h12
    have hk2 : k < l.length := by omega
    obtain ⟨b, o, qA, qn, qc, eA, en, ec, zA, zn, zc, gA, gn, gc, hA, hAn, hAc, rfl, hrow, hhd, hfl, hrs⟩ := flow_get hk2 hg; replace hrow := fun j u hj => gcell_mono hgm (hrow j u hj); have hzi := zItems_get hk2; have hzh := zHead_eq l[k].head; have hzp := szRs_length (l[k].head.props.map PropD.dat); rw [List.length_map] at hzp; have hsz2 := zItems_mem (List.getElem_mem hk2); have hn1 := n1_le l[k]; rw [List.drop_eq_getElem_cons hk2] at heq hat; rw [zItems, List.map_cons, szRs] at hat; rw [secS] at heq; refine c_skip ?_; refine hK7 _ _ ?_; clear hK7; refine c_seq (fun _ hK8 => ?_); refine c_block ?_; refine c_seqR (fun _ hK9 => ?_); refine s_index un32run ty35run _ H wn rfl rfl rfl (by first | assumption | omega) rfl ?_; clear H; intro a H; refine s_loada ty35run (cs := [_, _, _, _, _, _, _, _, _, _, _]) H wn rfl rfl (fun j v hj => H.hp.gcell (hrow j v hj)) rfl ?_; clear H; intro a H; refine s_alloc ty35run H wn rfl ?_; clear H; intro b7 a w hb7 H; refine s_store ty35run 0 (vs := [_, _, _, _, _, _, _, _, _, _, _]) _ H wn rfl rfl rfl rfl rfl rfl rfl rfl ?_; clear H; intro w H; dsimp only [List.set, setRow] at H; refine hK9 _ _ ?_; clear hK9; refine c_seqR (fun _ hK10 => ?_); refine s_move H wn rfl rfl ?_; clear H; intro a H; refine s_loada ty35run (cs := [_, _, _, _, _, _, _, _, _, _, _]) H wn rfl rfl (H.hp.ocells 0 rfl rfl) rfl ?_; clear H; intro a H; refine s_call en99par H wn rfl (size_spec _ _ H.hp.ro l[k] _ (RepRow.mkItem (hhd.mono hgm) (hfl.mono hgm) (hrs.mono hgm)) (by omega)) rfl ?_; clear H; rintro v17 G17 a w rfl hm17 H; have hgm1 : ∀ b o, G b = some o → G17 b = some o := fun b o h => hm17 b o (hgm b o h); refine s_add _ H wn rfl rfl rfl (by omega) (by omega) rfl ?_; clear H; intro a H; refine s_assign H wn rfl rfl ?_; clear H; intro a H; refine hK10 _ _ ?_; clear hK10; refine c_seqR (fun _ hK11 => ?_); refine s_field fd35_0run H wn rfl rfl ?_; clear H; intro a H; refine s_load ty3run H wn rfl (H.hp.ocell 0 rfl rfl) rfl ?_; clear H; intro a H; refine s_cmp H wn rfl rfl rfl rfl ?_; clear H; intro a H; refine hK11 _ _ ?_; clear hK11; refine c_cond H rfl ?_ ?_
    · intro h21
      try have p21 := of_decide_eq_true h21
      rw [if_pos p21] at heq; refine c_seqR (fun _ hK12 => ?_); (iterate 3 refine s_move H wn rfl rfl ?_; clear H; intro a H); refine s_field fd35_4run H wn rfl rfl ?_; clear H; intro a H; refine s_field fd31_0run H wn rfl rfl ?_; clear H; intro a H; refine s_load ty25run H wn rfl (H.hp.ocell 0 rfl rfl) rfl ?_; clear H; intro a H; refine s_call en98run H wn rfl (cloneProp_spec _ _ H.hp.ro _ _ _ _ (hhd.props.mono hgm1) (by rw [List.length_map]; omega)) rfl ?_; clear H; rintro v28 G28 a w hp28 hm28 H; obtain ⟨A28, n28, c28, rfl⟩ := hp28.form; refine s_build sr98sec [_, _, _, _] H wn rfl rfl rfl rfl ?_; clear H; intro a H; refine s_buildSlice un93sec ty98sec [_, _, _, _] [_, _, _, _] H wn rfl rfl rfl rfl rfl (by intro i q h; match i, h with | 0, h => exact h | n + 1, h => simp at h) rfl rfl ?_; clear H; intro b30 a w hb30 H; refine s_append (Li := [_, _, _]) (Lo := Lo) (news := [vi fr, vi (at_ + n1 l[k]), .bool true, .slice A28 n28 c28]) un93sec ty98sec rfl rfl H wn rfl rfl hrw rfl (H.hp.ocells 0 rfl rfl) rfl (by omega) (by omega) rfl ?_; clear H; intro v31 Lo31 a w hrw31 H; refine s_assign H wn rfl rfl ?_; clear H; intro a H; refine hK12 _ _ ?_; clear hK12; refine c_region ?_; refine s_move H wn rfl rfl ?_; clear H; intro a H; refine s_assign H wn rfl rfl ?_; clear H; intro a H; refine wl_nil ?_; refine hK8 _ _ ?_; clear hK8; refine c_region ?_; refine s_add _ H wn rfl rfl rfl (by omega) (by omega) rfl ?_; clear H; intro a H; refine s_move H wn rfl rfl ?_; clear H; intro a H; refine wl_nil ?_; refine loop_end ((k + 1, at_ + n1 l[k], at_ + n1 l[k], B ++ [⟨fr, at_ + n1 l[k], true, l[k].head.props⟩], v31, xs ++ [vi fr, vi (at_ + n1 l[k]), .bool true, .slice A28 n28 c28], Lo31, G28)) (by exact (H.pickT (Pl := [_, _, _]) (Pl' := [_]) [2] (by decide) rfl).sub ⟨rfl, rfl, rfl, rfl, rfl, rfl, rfl, trivial⟩) ?_ ?_
      · (try dsimp only); exact ⟨by omega, by rw [List.length_append]; exact hrw31, by rw [List.map_append]; exact ((hcat.mono hm17).mono hm28).snoc (part_row ⟨fr, at_ + n1 l[k], true, l[k].head.props⟩ hp28) rfl, fun b o h => hm28 b o (hgm1 b o h), by simpa using heq, by omega, by show at_ + (n1 l[k] : Int) + (szRs ((l.drop (k + 1)).map ItemD.dat) : Nat) ≤ 1073741824; omega⟩
      first | omega | (dsimp only; omega)
    intro h21
    try have p21 := of_decide_eq_false h21
    rw [if_neg p21] at heq; refine c_skip ?_; refine hK8 _ _ ?_; clear hK8; refine c_region ?_; refine s_add _ H wn rfl rfl rfl (by omega) (by omega) rfl ?_; clear H; intro a H; refine s_move H wn rfl rfl ?_; clear H; intro a H; refine wl_nil ?_; refine loop_end ((k + 1, fr, at_ + n1 l[k], B, v, xs, Lo, G17)) (by exact (H.pickT (Pl := [_, _]) (Pl' := [_]) [1] (by decide) rfl).sub ⟨rfl, rfl, rfl, rfl, rfl, rfl, rfl, trivial⟩) ?_ ?_
    · (try dsimp only); exact ⟨by omega, hrw, hcat.mono hm17, hgm1, heq, by omega, by show at_ + (n1 l[k] : Int) + (szRs ((l.drop (k + 1)).map ItemD.dat) : Nat) ≤ 1073741824; omega⟩
    first | omega | (dsimp only; omega)
  intro h12
  try have p12 := of_decide_eq_false h12
  refine c_exit ?_; refine hK4 _ _ ?_; clear hK4; refine c_seq (fun _ hK13 => ?_); rw [List.drop_of_length_le (by omega), secS] at heq; refine c_region ?_; (iterate 3 refine s_move H wn rfl rfl ?_; clear H; intro a H); refine s_field fd50_1sec H wn rfl rfl ?_; clear H; intro a H; refine s_field fd31_0run H wn rfl rfl ?_; clear H; intro a H; refine s_load ty25run H wn rfl (H.hp.ocell 0 rfl rfl) rfl ?_; clear H; intro a H; refine s_call en98run H wn rfl (cloneProp_spec _ _ H.hp.ro _ _ _ _ (hep.mono hgm) (by rw [List.length_map]; omega)) rfl ?_; clear H; rintro v40 G40 a w hp40 hm40 H; obtain ⟨A40, n40, c40, rfl⟩ := hp40.form; refine s_build sr98sec [_, _, _, _] H wn rfl rfl rfl rfl ?_; clear H; intro a H; refine s_buildSlice un93sec ty98sec [_, _, _, _] [_, _, _, _] H wn rfl rfl rfl rfl rfl (by intro i q h; match i, h with | 0, h => exact h | n + 1, h => simp at h) rfl rfl ?_; clear H; intro b42 a w hb42 H; refine s_append (Li := [_, _]) (Lo := Lo) (news := [vi fr, vi at_, .bool false, .slice A40 n40 c40]) un93sec ty98sec rfl rfl H wn rfl rfl hrw rfl (H.hp.ocells 0 rfl rfl) rfl (by omega) (by omega) rfl ?_; clear H; intro v43 Lo43 a w hrw43 H; refine s_assign H wn rfl rfl ?_; clear H; intro a H; refine wl_nil ?_; refine hK13 _ _ ?_; clear hK13; refine c_ret ?_; obtain ⟨G50, hm50, hrep, H⟩ := St.giveRow (Li := [_, _]) H hrw43 (rows := (secS ep 0 0 l).map PartD.dat) (by rw [← heq]; simp) (by rw [← heq, List.map_append]; exact (hcat.mono hm40).snoc (part_row ⟨fr, at_, false, ep⟩ hp40) rfl); refine (leave1 H Tryz.results39 (.cons (rv_tmp H rfl) .nil) ?_).1; exact H.hp.ret hrep
end
section
open Go.RowKit
theorem txt_ab : validS ⟨#[97, 98]⟩ = true ∧ cntFrom ⟨#[97, 98]⟩ 0 = 2 := by
  have d0 : decS ⟨#[97, 98]⟩ 0 = (97, 1, true) := by decide
  have d1 : decS ⟨#[97, 98]⟩ 1 = (98, 1, true) := by decide
  have e2 : firstS ⟨#[97, 98]⟩ 2 = -1 := by rw [firstS, dif_neg (by decide)]
  have e1 : firstS ⟨#[97, 98]⟩ 1 = -1 := by rw [firstS, dif_pos (by decide), dif_pos (by rw [d1]), d1]; exact e2
  have e0 : firstS ⟨#[97, 98]⟩ 0 = -1 := by rw [firstS, dif_pos (by decide), dif_pos (by rw [d0]), d0]; exact e1
  have c2 : cntFrom ⟨#[97, 98]⟩ 2 = 0 := by rw [cntFrom, if_neg (by decide)]
  have c1 : cntFrom ⟨#[97, 98]⟩ 1 = 1 := by rw [cntFrom, if_pos (by decide), c2]; decide
  have c0 : cntFrom ⟨#[97, 98]⟩ 0 = 2 := by rw [cntFrom, if_pos (by decide), c1]; decide
  exact ⟨by unfold validS; rw [e0]; decide, c0⟩
abbrev hd0 : HeadD := ⟨[], ⟨0, 0, [], []⟩⟩
def exA : ItemD := .mk 1 0 0 ⟨#[97, 98]⟩ hd0 [] []
def exX : ItemD := .mk 1 0 0 ⟨#[120]⟩ hd0 [] []
def exN : ItemD := .mk 6 1 4 ⟨#[]⟩ hd0 [exX] []
def exP : ItemD := .mk 2 0 0 ⟨#[]⟩ hd0 [] []
def exL : List ItemD := [exA, exN, exP]
theorem uA : unitsS exA = 2 ∧ unitsE exA = 0 := by simp [unitsS, unitsE, exA, ItemD.kind, ItemD.text, cntS, utfS, txt_ab.1, txt_ab.2]
theorem uP : unitsS exP = 1 ∧ unitsE exP = 0 := by simp [unitsS, unitsE, exP, ItemD.kind]
theorem nA : n1 exA = 2 := by simp [n1, uA.1, uA.2]
theorem nP : n1 exP = 1 := by simp [n1, uP.1, uP.2]
theorem hd0_rep {G : GH} : HeadR G hd0 (.slice none 0 0) (.slice none 0 0) (.slice none 0 0) := ⟨RepV.nil_ rfl (by decide), RepV.nil_ rfl (by decide), RepV.nil_ rfl (by decide)⟩
end
section
open Go.RowKit
theorem sr35k14 : Srt Tryz.prog 35 [(0, 1), (1, 1), (2, 1), (3, 1), (4, 5), (9, 1), (10, 1)] [.int .i64 0, .int .i64 0, .int .i64 0, .string ⟨#[]⟩, .slice none 0 0, .int .i64 0, .int .i64 0, .slice none 0 0, .slice none 0 0, .slice none 0 0, .slice none 0 0] := ⟨by kernel_rfl, by kernel_rfl⟩
theorem en9k14 : ∀ args w, (callFunc 9 args).run Tryz.prog w = .ok (.enter 9 args) w := enters Tryz.func9 rfl (by kernel_rfl)
theorem txt_97 : validS ⟨#[97]⟩ = true ∧ cntFrom ⟨#[97]⟩ 0 = 1 := by
  have d0 : decS ⟨#[97]⟩ 0 = (97, 1, true) := by decide
  have e1 : firstS ⟨#[97]⟩ 1 = -1 := by rw [firstS, dif_neg (by decide)]
  have e0 : firstS ⟨#[97]⟩ 0 = -1 := by rw [firstS, dif_pos (by decide), dif_pos (by rw [d0]), d0]; exact e1
  have c1 : cntFrom ⟨#[97]⟩ 1 = 0 := by rw [cntFrom, if_neg (by decide)]
  have c0 : cntFrom ⟨#[97]⟩ 0 = 1 := by rw [cntFrom, if_pos (by decide), c1]; decide
  exact ⟨by unfold validS; rw [e0]; decide, c0⟩
def ex97 : ItemD := .mk 1 0 0 ⟨#[97]⟩ hd0 [] []
theorem u97 : unitsS ex97 = 1 ∧ unitsE ex97 = 0 := by simp [unitsS, unitsE, ex97, ItemD.kind, ItemD.text, cntS, utfS, txt_97.1, txt_97.2]
theorem n97 : n1 ex97 = 1 := by simp [n1, u97.1, u97.2]
theorem z97 : szR ex97.dat = 12 := by
  have h := zItem_eq ex97
  have h0 : zHead hd0 = 5 := by simp [zHead_eq, szRs]
  have s1 : ex97.text.size = 1 := rfl; have g1 : ex97.head = hd0 := rfl; have f1 : zItems ex97.flow = 0 := rfl; have r1 : zRows ex97.rows = 0 := rfl; rw [g1, h0, s1, f1, r1] at h; exact h
theorem txt_98 : validS ⟨#[98]⟩ = true ∧ cntFrom ⟨#[98]⟩ 0 = 1 := by
  have d0 : decS ⟨#[98]⟩ 0 = (98, 1, true) := by decide
  have e1 : firstS ⟨#[98]⟩ 1 = -1 := by rw [firstS, dif_neg (by decide)]
  have e0 : firstS ⟨#[98]⟩ 0 = -1 := by rw [firstS, dif_pos (by decide), dif_pos (by rw [d0]), d0]; exact e1
  have c1 : cntFrom ⟨#[98]⟩ 1 = 0 := by rw [cntFrom, if_neg (by decide)]
  have c0 : cntFrom ⟨#[98]⟩ 0 = 1 := by rw [cntFrom, if_pos (by decide), c1]; decide
  exact ⟨by unfold validS; rw [e0]; decide, c0⟩
def ex98 : ItemD := .mk 1 0 0 ⟨#[98]⟩ hd0 [] []
theorem u98 : unitsS ex98 = 1 ∧ unitsE ex98 = 0 := by simp [unitsS, unitsE, ex98, ItemD.kind, ItemD.text, cntS, utfS, txt_98.1, txt_98.2]
theorem n98 : n1 ex98 = 1 := by simp [n1, u98.1, u98.2]
theorem z98 : szR ex98.dat = 12 := by
  have h := zItem_eq ex98
  have h0 : zHead hd0 = 5 := by simp [zHead_eq, szRs]
  have s1 : ex98.text.size = 1 := rfl; have g1 : ex98.head = hd0 := rfl; have f1 : zItems ex98.flow = 0 := rfl; have r1 : zRows ex98.rows = 0 := rfl; rw [g1, h0, s1, f1, r1] at h; exact h
theorem txt_99 : validS ⟨#[99]⟩ = true ∧ cntFrom ⟨#[99]⟩ 0 = 1 := by
  have d0 : decS ⟨#[99]⟩ 0 = (99, 1, true) := by decide
  have e1 : firstS ⟨#[99]⟩ 1 = -1 := by rw [firstS, dif_neg (by decide)]
  have e0 : firstS ⟨#[99]⟩ 0 = -1 := by rw [firstS, dif_pos (by decide), dif_pos (by rw [d0]), d0]; exact e1
  have c1 : cntFrom ⟨#[99]⟩ 1 = 0 := by rw [cntFrom, if_neg (by decide)]
  have c0 : cntFrom ⟨#[99]⟩ 0 = 1 := by rw [cntFrom, if_pos (by decide), c1]; decide
  exact ⟨by unfold validS; rw [e0]; decide, c0⟩
def ex99 : ItemD := .mk 1 0 0 ⟨#[99]⟩ hd0 [] []
theorem u99 : unitsS ex99 = 1 ∧ unitsE ex99 = 0 := by simp [unitsS, unitsE, ex99, ItemD.kind, ItemD.text, cntS, utfS, txt_99.1, txt_99.2]
theorem n99 : n1 ex99 = 1 := by simp [n1, u99.1, u99.2]
theorem z99 : szR ex99.dat = 12 := by
  have h := zItem_eq ex99
  have h0 : zHead hd0 = 5 := by simp [zHead_eq, szRs]
  have s1 : ex99.text.size = 1 := rfl; have g1 : ex99.head = hd0 := rfl; have f1 : zItems ex99.flow = 0 := rfl; have r1 : zRows ex99.rows = 0 := rfl; rw [g1, h0, s1, f1, r1] at h; exact h
theorem txt_100 : validS ⟨#[100]⟩ = true ∧ cntFrom ⟨#[100]⟩ 0 = 1 := by
  have d0 : decS ⟨#[100]⟩ 0 = (100, 1, true) := by decide
  have e1 : firstS ⟨#[100]⟩ 1 = -1 := by rw [firstS, dif_neg (by decide)]
  have e0 : firstS ⟨#[100]⟩ 0 = -1 := by rw [firstS, dif_pos (by decide), dif_pos (by rw [d0]), d0]; exact e1
  have c1 : cntFrom ⟨#[100]⟩ 1 = 0 := by rw [cntFrom, if_neg (by decide)]
  have c0 : cntFrom ⟨#[100]⟩ 0 = 1 := by rw [cntFrom, if_pos (by decide), c1]; decide
  exact ⟨by unfold validS; rw [e0]; decide, c0⟩
def ex100 : ItemD := .mk 1 0 0 ⟨#[100]⟩ hd0 [] []
theorem u100 : unitsS ex100 = 1 ∧ unitsE ex100 = 0 := by simp [unitsS, unitsE, ex100, ItemD.kind, ItemD.text, cntS, utfS, txt_100.1, txt_100.2]
theorem n100 : n1 ex100 = 1 := by simp [n1, u100.1, u100.2]
theorem z100 : szR ex100.dat = 12 := by
  have h := zItem_eq ex100
  have h0 : zHead hd0 = 5 := by simp [zHead_eq, szRs]
  have s1 : ex100.text.size = 1 := rfl; have g1 : ex100.head = hd0 := rfl; have f1 : zItems ex100.flow = 0 := rfl; have r1 : zRows ex100.rows = 0 := rfl; rw [g1, h0, s1, f1, r1] at h; exact h
def cl0 : CellD := .mk 0 hd0 []
def rw0 : RowD := .mk hd0 [cl0]
def exT : ItemD := .mk 7 0 0 ⟨#[]⟩ hd0 [] [rw0]
def exK : ItemD := .mk 8 0 0 ⟨#[]⟩ hd0 [] []
def exS : ItemD := .mk 3 0 0 ⟨#[]⟩ hd0 [] []
theorem uT : unitsS exT = 1 ∧ unitsE exT = 0 := by simp [unitsS, unitsE, exT, ItemD.kind]
theorem uK : unitsS exK = 1 ∧ unitsE exK = 0 := by simp [unitsS, unitsE, exK, ItemD.kind]
theorem uS : unitsS exS = 1 ∧ unitsE exS = 0 := by simp [unitsS, unitsE, exS, ItemD.kind]
theorem nT : n1 exT = 1 := by simp [n1, uT.1, uT.2]
theorem nK : n1 exK = 1 := by simp [n1, uK.1, uK.2]
theorem nS : n1 exS = 1 := by simp [n1, uS.1, uS.2]
def ex14 : List ItemD := [exA, exP, ex99, exT, exK, exT, ex100]
def exSec : List ItemD := [ex97, exS, ex98]
theorem h00 : zHead hd0 = 5 := by simp [zHead_eq, szRs]
theorem zA : szR exA.dat = 13 := by
  have h := zItem_eq exA; rw [show exA.head = hd0 from rfl, h00, show exA.text.size = 2 from rfl, show zItems exA.flow = 0 from rfl, show zRows exA.rows = 0 from rfl] at h; exact h
theorem zP : szR exP.dat = 11 := by
  have h := zItem_eq exP; rw [show exP.head = hd0 from rfl, h00, show exP.text.size = 0 from rfl, show zItems exP.flow = 0 from rfl, show zRows exP.rows = 0 from rfl] at h; exact h
theorem zK : szR exK.dat = 11 := by
  have h := zItem_eq exK; rw [show exK.head = hd0 from rfl, h00, show exK.text.size = 0 from rfl, show zItems exK.flow = 0 from rfl, show zRows exK.rows = 0 from rfl] at h; exact h
theorem zS : szR exS.dat = 11 := by
  have h := zItem_eq exS; rw [show exS.head = hd0 from rfl, h00, show exS.text.size = 0 from rfl, show zItems exS.flow = 0 from rfl, show zRows exS.rows = 0 from rfl] at h; exact h
theorem zT : szR exT.dat = 26 := by
  have h := zItem_eq exT; have h1 := zRow_eq rw0; have h2 := zCell_eq cl0; rw [show cl0.head = hd0 from rfl, h00, show zItems cl0.flow = 0 from rfl] at h2; rw [show rw0.head = hd0 from rfl, h00, show zCells rw0.cells = 1 + szR cl0.dat + 0 from rfl, h2] at h1; rw [show exT.head = hd0 from rfl, h00, show exT.text.size = 0 from rfl, show zItems exT.flow = 0 from rfl, show zRows exT.rows = 1 + szR rw0.dat + 0 from rfl, h1] at h; exact h
theorem z14 : zItems ex14 ≤ 1073741824 := by
  simp only [zItems, ex14, List.map_cons, List.map_nil, szRs, zA, zP, z99, zT, zK, z100]; decide
theorem zSec : zItems exSec ≤ 1073741824 := by
  simp only [zItems, exSec, List.map_cons, List.map_nil, szRs, z97, zS, z98]; decide
theorem d14 : divS ex14 = true := by simp [divS, ex14, uA.2, uP.2, u99.2, uT.2, uK.2, u100.2]
theorem s14 : sumS ex14 = 8 := by simp [sumS, ex14, uA.1, uP.1, u99.1, uT.1, uK.1, u100.1]
theorem e14 : lenE ex14 = 0 := by simp [lenE, d14]
theorem l14 : lenS ex14 = 8 := by simp [lenS, d14, s14]
def bl14 : List BlkD := [⟨1, 0, 3, true⟩, ⟨1, 3, 4, false⟩, ⟨2, 4, 5, false⟩, ⟨4, 5, 6, false⟩, ⟨2, 6, 7, false⟩, ⟨1, 7, 8, false⟩]
theorem b14 : blkS 0 0 true ex14 = bl14 := by
  simp only [ex14, blkS, nA, nP, n99, nT, nK, n100]
  simp [exA, exP, ex99, exT, exK, ex100, ItemD.kind, restL, bl14]
theorem bs14 : blocksS ex14 = bl14 := by rw [blocksS, if_pos e14, b14]
theorem o14 : offs 0 ex14 = [(0, exA), (2, exP), (3, ex99), (4, exT), (5, exK), (6, exT), (7, ex100)] := by
  simp [offs, ex14, uA.1, uP.1, u99.1, uT.1, uK.1]
theorem lf2 : leftS 2 ex14 = [exA] := by simp [leftS, lA, o14, fitA, uA.1, uP.1, u99.1, uT.1, uK.1, u100.1]
theorem lf3 : leftS 3 ex14 = [exA, exP] := by simp [leftS, lA, o14, fitA, uA.1, uP.1, u99.1, uT.1, uK.1, u100.1]
theorem oA : offs 0 [exA] = [(0, exA)] := rfl
theorem oAP : offs 0 [exA, exP] = [(0, exA), (2, exP)] := by simp [offs, uA.1]
theorem rg0 : rightS 0 [exA] = [exA] := by simp [rightS, rA, oA, fitA, uA.1]
theorem rg2 : rightS 2 [exA, exP] = [exP] := by simp [rightS, rA, oAP, fitA, uA.1, uP.1]
theorem cut2 : CutOk 2 ex14 := by
  intro a ha; rw [o14] at ha
  simp only [List.mem_cons, List.not_mem_nil, or_false] at ha
  rcases ha with rfl | rfl | rfl | rfl | rfl | rfl | rfl <;> simp [fitA, uA.1]
theorem cut3 : CutOk 3 ex14 := by
  intro a ha; rw [o14] at ha
  simp only [List.mem_cons, List.not_mem_nil, or_false] at ha
  rcases ha with rfl | rfl | rfl | rfl | rfl | rfl | rfl <;> simp [fitA, uA.1, uP.1]
theorem cut0 : CutOk 0 [exA] := by
  intro a ha; rw [oA] at ha
  simp only [List.mem_cons, List.not_mem_nil, or_false] at ha
  subst ha; simp
theorem cut22 : CutOk 2 [exA, exP] := by
  intro a ha; rw [oAP] at ha
  simp only [List.mem_cons, List.not_mem_nil, or_false] at ha
  rcases ha with rfl | rfl <;> simp [fitA, uA.1]
theorem plA : PlainL [exA] := ⟨NoJoin.one (Nat.le_refl _), fun x hx => by rw [List.mem_singleton.1 hx]; exact ⟨rfl, rfl, by decide, fun _ => by rw [ByteArray.toList_eq]; decide⟩⟩
theorem plPara : PlainL [exP] := ⟨NoJoin.one (Nat.le_refl _), fun x hx => by rw [List.mem_singleton.1 hx]; exact ⟨rfl, rfl, by decide, fun h => absurd h (by decide)⟩⟩
theorem sSec : secS [] 0 0 exSec = [⟨0, 2, true, []⟩, ⟨2, 3, false, []⟩] := by
  simp only [exSec, secS, n97, nS, n98]
  simp [ex97, exS, ex98, ItemD.kind, ItemD.head]
abbrev itC (k : Int) (s : ByteArray) (r : Value) : List Value := [vi k, vi 0, vi 0, .string s, .slice none 0 0, vi 0, vi 0, .slice none 0 0, .slice none 0 0, .slice none 0 0, r]
theorem text14_spec (G : GH) (w0 : World) (hG : Hold G w0) (s : ByteArray) : Calls Tryz.prog 9 #[.string s] w0 (Ret w0 G fun u G' => u = .agg (itC 1 s (.slice none 0 0)).toArray ∧ G = G') := by
  refine enter (N := 5) (T := [(0, _)]) (F := fun k => k < w0.heap.size) (L := []) Tryz.func9 rfl Tryz.ntmps9 rfl rfl hG (fun _ h => h) (fun _ h => by cases h) (fun _ h => by cases h) (fun _ h => by cases h) List.Pairwise.nil ?_; intro a H; refine c_seqR (fun _ hK1 => ?_); refine s_alloc ty35run H wn rfl ?_; clear H; intro b2 a w hb2 H; refine hK1 _ _ ?_; clear hK1; refine c_seqR (fun _ hK2 => ?_); refine s_move H wn rfl rfl ?_; clear H; intro a H; refine s_build sr35k14 [_, _, _, _, _, _, _, _, _, _, _] H wn rfl rfl rfl rfl ?_; clear H; intro a H; refine s_store ty35run 0 (vs := [_, _, _, _, _, _, _, _, _, _, _]) _ H wn rfl rfl rfl rfl rfl rfl rfl rfl ?_; clear H; intro w H; dsimp only [List.set, setRow] at H; refine hK2 _ _ ?_; clear hK2; refine c_ret ?_; refine (leave1 H Tryz.results9 (.cons (rv_cella ty35run (cs := [_, _, _, _, _, _, _, _, _, _, _]) H rfl rfl (H.hp.ocells 0 rfl rfl)) .nil) ?_).1; exact H.hp.ret ⟨rfl, rfl⟩
theorem it_rep {G : GH} (k : Int) (s : ByteArray) : RepRow G (ItemD.mk k 0 0 s hd0 [] []).dat (itC k s (.slice none 0 0)) :=
  RepRow.mkItem (x := ItemD.mk k 0 0 s hd0 [] []) hd0_rep (RepV.nil_ (A := none) (n := 0) (c := 0) rfl (by decide)) (RepV.nil_ (A := none) (n := 0) (c := 0) rfl (by decide))
def cs14 (r : Value) : List (List Value) := [itC 1 ⟨#[97, 98]⟩ (.slice none 0 0), itC 2 ⟨#[]⟩ (.slice none 0 0), itC 1 ⟨#[99]⟩ (.slice none 0 0), itC 7 ⟨#[]⟩ r, itC 8 ⟨#[]⟩ (.slice none 0 0), itC 7 ⟨#[]⟩ r, itC 1 ⟨#[100]⟩ (.slice none 0 0)]
theorem cs14_rep {G : GH} {r : Value} (h : RepV G (.sl 6 [rw0.dat]) r) : RepCat G 11 (ex14.map ItemD.dat) (cs14 r).flatten := by
  have hT : RepRow G exT.dat (itC 7 ⟨#[]⟩ r) := RepRow.mkItem (x := exT) hd0_rep (RepV.nil_ (A := none) (n := 0) (c := 0) rfl (by decide)) h; refine ⟨cs14 r, rfl, rfl, fun j q cs hr hc => ?_⟩
  match j, hr, hc with
  | 0, hr, hc => cases hr; cases hc; exact ⟨it_rep _ _, rfl⟩
  | 1, hr, hc => cases hr; cases hc; exact ⟨it_rep _ _, rfl⟩
  | 2, hr, hc => cases hr; cases hc; exact ⟨it_rep _ _, rfl⟩
  | 3, hr, hc => cases hr; cases hc; exact ⟨hT, rfl⟩
  | 4, hr, hc => cases hr; cases hc; exact ⟨it_rep _ _, rfl⟩
  | 5, hr, hc => cases hr; cases hc; exact ⟨hT, rfl⟩
  | 6, hr, hc => cases hr; cases hc; exact ⟨it_rep _ _, rfl⟩
  | n + 7, hr, hc => cases hc
set_option maxHeartbeats 1000000 in
theorem example14_spec (G : GH) (w0 : World) (hG : Hold G w0) :
    Calls Tryz.prog 36 #[] w0 (Ret w0 G fun u G' => RepV G' (.sl 11 (ex14.map ItemD.dat)) u) := by
  refine enter (N := 15) (T := []) (F := fun k => k < w0.heap.size) (L := []) Tryz.func36 rfl Tryz.ntmps36 rfl rfl hG (fun _ h => h) (fun _ h => by cases h) (fun _ h => by cases h) (fun _ h => by cases h) List.Pairwise.nil ?_; intro a H; refine c_seqR (fun _ hK1 => ?_); refine s_assign H wn rfl rfl ?_; clear H; intro a H; refine hK1 _ _ ?_; clear hK1; refine c_seqR (fun _ hK2 => ?_); refine s_build sr174run [_, _, _, _, _, _, _] H wn rfl rfl rfl rfl ?_; clear H; intro a H; refine s_buildSlice un169run ty174run [_, _, _, _, _, _, _] [_, _, _, _, _, _, _] H wn rfl rfl rfl rfl rfl (by intro i q h; match i, h with | 0, h => exact h | n + 1, h => simp at h) rfl rfl ?_; clear H; intro b3 a w hb3 H; refine s_build sr171run [_, _, _, _, _, _] H wn rfl rfl rfl rfl ?_; clear H; intro a H; refine s_buildSlice un33run ty171run [_, _, _, _, _, _] [_, _, _, _, _, _] H wn rfl rfl rfl rfl rfl (by intro i q h; match i, h with | 0, h => exact h | n + 1, h => simp at h) rfl rfl ?_; clear H; intro b5 a w hb5 H; refine s_build sr35k14 [_, _, _, _, _, _, _, _, _, _, _] H wn rfl rfl rfl rfl ?_; clear H; intro a H; refine s_alloc ty35run H wn rfl ?_; clear H; intro b1 a w hb1 H; refine s_store ty35run 0 (vs := [_, _, _, _, _, _, _, _, _, _, _]) _ H wn rfl rfl rfl rfl rfl rfl rfl rfl ?_; clear H; intro w H; dsimp only [List.set, setRow] at H; refine hK2 _ _ ?_; clear hK2; refine c_seq (fun _ hK3 => ?_); have H := H.pickT (Pl := [_, _, _]) (Pl' := [_, _, _]) [2, 1, 0] (by decide) rfl; obtain ⟨Ga, hma, hra, H⟩ := H.giveOne (sz := 7) (d := cl0.dat) rfl (RepRow.mkCell (x := cl0) hd0_rep (RepV.nil_ (A := none) (n := 0) (c := 0) rfl (by decide))); obtain ⟨Gb, hmb, hrb, H⟩ := H.giveOne (sz := 6) (d := rw0.dat) rfl (RepRow.mkRow (x := rw0) hd0_rep hra); have H := H.sub (T' := [(1, _)]) ⟨rfl, trivial⟩; refine c_drawI (hmx) [[], [], [0], [], [], [], [0, 2], [0, 1, 2, 3, 4, 5, 6], [0, 1, 2, 3, 4, 5, 6, 7]] [7, 8] (by kernel_rfl) (by kernel_rfl) (fun (ix_ : Nat) (v : Value) (G : GH) => match ix_ with | 0 => v = .agg (itC 1 ⟨#[97, 98]⟩ (.slice none 0 0)).toArray | 1 => v = .agg (itC 2 ⟨#[]⟩ (.slice none 0 0)).toArray | 2 => v = .agg (itC 1 ⟨#[99]⟩ (.slice none 0 0)).toArray | 3 => v = .agg (itC 7 ⟨#[]⟩ (.slice (some ⟨b5, 0, none⟩) 1 1)).toArray | 4 => v = .agg (itC 8 ⟨#[]⟩ (.slice none 0 0)).toArray | 5 => v = .agg (itC 7 ⟨#[]⟩ (.slice (some ⟨b5, 0, none⟩) 1 1)).toArray | 6 => v = .agg (itC 1 ⟨#[100]⟩ (.slice none 0 0)).toArray | _ => True) (fun _ _ _ _ _ h => h) H ?_ ?_
  · clear H; refine (allI_cons ?_ (allI_cons ?_ (allI_cons ?_ (allI_cons ?_ (allI_cons ?_ (allI_cons ?_ (allI_cons ?_ (allI_cons ?_ (allI_cons ?_ allI_nil)))))))))
    · refine opI [] rfl trivial (by kernel_rfl) (fun _ _ _ _ _ h => h) rfl rfl ?_; intro Sd_ a w G1 hG HT H fin; refine s_call en9k14 H wn rfl (text14_spec _ _ H.hp.ro _) rfl ?_; clear H; rintro v7 G7 a w ⟨rfl, -⟩ hGm7 H; exact fin H hGm7 (rfl)
    · refine opI [] rfl trivial (by kernel_rfl) (fun _ _ _ _ _ h => h) rfl rfl ?_; intro Sd_ a w G1 hG HT H fin; refine s_build sr35k14 [_, _, _, _, _, _, _, _, _, _, _] H wn rfl rfl rfl rfl ?_; clear H; intro a H; exact fin H (fun _ _ h => h) (rfl)
    · refine opI [] rfl trivial (by kernel_rfl) (fun _ _ _ _ _ h => h) rfl rfl ?_; intro Sd_ a w G1 hG HT H fin; refine s_call en9k14 H wn rfl (text14_spec _ _ H.hp.ro _) rfl ?_; clear H; rintro v9 G9 a w ⟨rfl, -⟩ hGm9 H; exact fin H hGm9 (rfl)
    · refine opI [] rfl trivial (by kernel_rfl) (fun _ _ _ _ _ h => h) rfl rfl ?_; intro Sd_ a w G1 hG HT H fin; refine s_loada ty35run (cs := [_, _, _, _, _, _, _, _, _, _, _]) H wn rfl rfl (H.hp.ocells 0 rfl rfl) rfl ?_; clear H; intro a H; exact fin H (fun _ _ h => h) (rfl)
    · refine opI [] rfl trivial (by kernel_rfl) (fun _ _ _ _ _ h => h) rfl rfl ?_; intro Sd_ a w G1 hG HT H fin; refine s_build sr35k14 [_, _, _, _, _, _, _, _, _, _, _] H wn rfl rfl rfl rfl ?_; clear H; intro a H; exact fin H (fun _ _ h => h) (rfl)
    · refine opI [] rfl trivial (by kernel_rfl) (fun _ _ _ _ _ h => h) rfl rfl ?_; intro Sd_ a w G1 hG HT H fin; refine s_loada ty35run (cs := [_, _, _, _, _, _, _, _, _, _, _]) H wn rfl rfl (H.hp.ocells 0 rfl rfl) rfl ?_; clear H; intro a H; exact fin H (fun _ _ h => h) (rfl)
    · refine opI [] rfl trivial (by kernel_rfl) (fun _ _ _ _ _ h => h) rfl rfl ?_; intro Sd_ a w G1 hG HT H fin; refine s_call en9k14 H wn rfl (text14_spec _ _ H.hp.ro _) rfl ?_; clear H; rintro v13 G13 a w ⟨rfl, -⟩ hGm13 H; exact fin H hGm13 (rfl)
    · intro _ _ _ _ hB; exact absurd hB (by decide)
    intro _ _ _ _ hB; exact absurd hB (by decide)
  clear H; intro a w G hGm2 H hv; obtain ⟨u7, hu7, hp7⟩ := hv 0 7 (by decide) rfl; obtain rfl : u7 = .agg (itC 1 ⟨#[97, 98]⟩ (.slice none 0 0)).toArray := hp7; have H := H.addS hu7; obtain ⟨u8, hu8, hp8⟩ := hv 1 8 (by decide) rfl; obtain rfl : u8 = .agg (itC 2 ⟨#[]⟩ (.slice none 0 0)).toArray := hp8; have H := H.addS hu8; obtain ⟨u9, hu9, hp9⟩ := hv 2 9 (by decide) rfl; obtain rfl : u9 = .agg (itC 1 ⟨#[99]⟩ (.slice none 0 0)).toArray := hp9; have H := H.addS hu9; obtain ⟨u10, hu10, hp10⟩ := hv 3 10 (by decide) rfl; obtain rfl : u10 = .agg (itC 7 ⟨#[]⟩ (.slice (some ⟨b5, 0, none⟩) 1 1)).toArray := hp10; have H := H.addS hu10; obtain ⟨u11, hu11, hp11⟩ := hv 4 11 (by decide) rfl; obtain rfl : u11 = .agg (itC 8 ⟨#[]⟩ (.slice none 0 0)).toArray := hp11; have H := H.addS hu11; obtain ⟨u12, hu12, hp12⟩ := hv 5 12 (by decide) rfl; obtain rfl : u12 = .agg (itC 7 ⟨#[]⟩ (.slice (some ⟨b5, 0, none⟩) 1 1)).toArray := hp12; have H := H.addS hu12; obtain ⟨u13, hu13, hp13⟩ := hv 6 13 (by decide) rfl; obtain rfl : u13 = .agg (itC 1 ⟨#[100]⟩ (.slice none 0 0)).toArray := hp13; have H := H.addS hu13; clear hv; refine s_buildAll un32run ty35run (cs14 (.slice (some ⟨b5, 0, none⟩) 1 1)) H wn rfl rfl rfl rfl rfl rfl rfl ?_; clear H; intro b14 a w hb14 H; refine s_assign H wn rfl rfl ?_; clear H; intro a H; refine wl_nil ⟨rfl, ?_⟩; refine hK3 _ _ ?_; clear hK3; refine c_ret ?_; refine (leave1 H Tryz.results36 (.cons (rv_tmp H rfl) .nil) ?_).1; obtain ⟨Gz, hmz, hbz, H⟩ := H.giveBox; exact H.hp.ret (RepV.of_row (n := 7) (cap := 7) hbz rfl (Nat.le_refl _) (show 7 ≤ maxLen by decide) (List.take_of_length_le (Nat.le_refl _)) (cs14_rep ((hrb.mono hGm2).mono hmz)))
end
section
open Go.RowKit
def hdP (p : List PropD) : HeadD := ⟨p, ⟨0, 0, [], []⟩⟩
def itT (s : ByteArray) (p : List PropD) : ItemD := .mk 1 0 0 s (hdP p) [] []
def itP2 (p : List PropD) : ItemD := .mk 2 0 0 ⟨#[]⟩ (hdP p) [] []
def fl14 (s : ByteArray) (q p : List PropD) : List ItemD := [itT s [], itT s q, itP2 p]
theorem hd0_eq : hd0 = hdP [] := rfl
section
variable {s : ByteArray} {q p : List PropD} {n : Nat}
theorem uT14 (hn : n = cntS s) (he : utfS s = 0) (p : List PropD) : unitsS (itT s p) = n ∧ unitsE (itT s p) = 0 := by
  simp [unitsS, unitsE, itT, ItemD.kind, ItemD.text, hn, he]
theorem uP14 (p : List PropD) : unitsS (itP2 p) = 1 ∧ unitsE (itP2 p) = 0 := by simp [unitsS, unitsE, itP2, ItemD.kind]
theorem o14f (hn : n = cntS s) (he : utfS s = 0) : offs 0 (fl14 s q p) = [(0, itT s []), (n, itT s q), (n + n, itP2 p)] := by
  simp [offs, fl14, (uT14 hn he _).1]
theorem len14 (hn : n = cntS s) (he : utfS s = 0) : lenE (fl14 s q p) = 0 ∧ lenS (fl14 s q p) = 2 * n + 1 := by
  have hd : divS (fl14 s q p) = true := by simp [divS, fl14, (uT14 hn he _).2, (uP14 _).2]
  have hs : sumS (fl14 s q p) = 2 * n + 1 := by simp [sumS, fl14, (uT14 hn he _).1, (uP14 _).1]; omega
  exact ⟨by rw [lenE, if_pos hd], by rw [lenS, if_pos hd, hs]; rfl⟩
def bl3 (n : Nat) : BlkD := ⟨1, 0, 2 * (n : Int) + 1, true⟩
theorem bl14f (hn : n = cntS s) (he : utfS s = 0) (h0 : 0 < n) : blocksS (fl14 s q p) = [bl3 n] := by
  rw [blocksS, if_pos (len14 hn he).1]
  have h1 : ∀ p, n1 (itT s p) = n := fun p => by simp [n1, (uT14 hn he _).1, (uT14 hn he _).2]
  have h2 : ∀ p, n1 (itP2 p) = 1 := fun p => by simp [n1, (uP14 _).1, (uP14 _).2]
  simp only [fl14, blkS, h1, h2]
  simp [itT, itP2, ItemD.kind, restL, bl3]
  omega
theorem endB3 (n : Nat) : endB (bl3 n) = 2 * (n : Int) := by simp [endB, bl3]
theorem left2 (hn : n = cntS s) (he : utfS s = 0) : leftS (2 * (n : Int)) (fl14 s q p) = [itT s [], itT s q] := by
  have h3 : ¬ (n : Int) + n + 1 ≤ 2 * n := by omega
  have h2 : (n : Int) + n ≤ 2 * n := by omega
  have h1 : (n : Int) ≤ 2 * n := by omega
  simp [leftS, lA, o14f hn he, fitA, (uT14 hn he _).1, (uP14 _).1, h1, h2, h3]
theorem left3 (hn : n = cntS s) (he : utfS s = 0) : leftS (2 * (n : Int) + 1) (fl14 s q p) = fl14 s q p := by
  have h3 : (n : Int) + n + 1 ≤ 2 * n + 1 := by omega
  have h2 : (n : Int) + n ≤ 2 * n + 1 := by omega
  have h1 : (n : Int) ≤ 2 * n + 1 := by omega
  simp [leftS, lA, o14f hn he, fitA, (uT14 hn he _).1, (uP14 _).1, h1, h2, h3]
  rfl
theorem offs2 (hn : n = cntS s) (he : utfS s = 0) : offs 0 [itT s [], itT s q] = [(0, itT s []), (n, itT s q)] := by
  simp [offs, (uT14 hn he _).1]
theorem right0 (hn : n = cntS s) (he : utfS s = 0) (h0 : 0 < n) : rightS 0 [itT s [], itT s q] = [itT s [], itT s q] := by
  have h1 : fitA 0 (0, itT s []) = false := by rw [fitA, (uT14 hn he _).1]; exact decide_eq_false (by omega)
  have h2 : fitA 0 (n, itT s q) = false := by rw [fitA, (uT14 hn he _).1]; exact decide_eq_false (by omega)
  simp [rightS, rA, offs2 hn he, h1, h2]
theorem right2 (hn : n = cntS s) (he : utfS s = 0) : rightS (2 * (n : Int)) (fl14 s q p) = [itP2 p] := by
  have h3 : ¬ (n : Int) + n + 1 ≤ 2 * n := by omega
  have h2 : (n : Int) + n ≤ 2 * n := by omega
  have h1 : (n : Int) ≤ 2 * n := by omega
  simp [rightS, rA, o14f hn he, fitA, (uT14 hn he _).1, (uP14 _).1, h1, h2, h3]
theorem txt_ne (hn : n = cntS s) (h0 : 0 < n) : ¬ s.toList = [] := by
  intro h; have h1 := cntS_le s; rw [ByteArray.toList_eq] at h
  have h2 : s.data.toList.length = 0 := by rw [h]; rfl
  have h3 : s.size = s.data.toList.length := (Array.length_toList (xs := s.data)).symm
  omega
theorem plainT (hn : n = cntS s) (h0 : 0 < n) (p : List PropD) : PlainI (itT s p) := ⟨rfl, rfl, fun h => absurd (show (1 : Int) = 7 from h) (by decide), fun _ => txt_ne hn h0⟩
theorem blk14 (hn : n = cntS s) (he : utfS s = 0) (h0 : 0 < n) (h40 : n ≤ 40) (hq : q ≠ []) : BlkOk (fl14 s q p) (bl3 n) (itP2 p) where
  err := (len14 hn he).1
  ix := ⟨0, by rw [bl14f hn he h0]; simp⟩
  to_ := by simp only [bl3]; omega
  r1 := by rw [rngS, if_pos (len14 hn he).1, (len14 hn he).2, endB3, if_neg (by simp only [bl3]; omega)]
  c1 := by
    rw [endB3]; intro a ha; rw [o14f hn he] at ha
    simp only [List.mem_cons, List.not_mem_nil, or_false] at ha
    rcases ha with rfl | rfl | rfl <;> simp [fitA, (uT14 hn he _).1] <;> omega
  c2 := by
    rw [endB3, left2 hn he]; intro a ha; rw [offs2 hn he] at ha
    simp only [List.mem_cons, List.not_mem_nil, or_false] at ha
    rcases ha with rfl | rfl <;> simp [bl3]
  p1 := by
    rw [endB3, left2 hn he, show (bl3 n).from_ = 0 from rfl, right0 hn he h0]; refine ⟨fun k hk => ?_, fun x hx => ?_⟩
    · have : k = 0 := by simp at hk; omega
      subst this; rintro ⟨_, _, h⟩
      simp only [List.getElem_cons_zero, List.getElem_cons_succ] at h
      exact hq (congrArg HeadD.props h).symm
    simp only [List.mem_cons, List.not_mem_nil, or_false] at hx
    rcases hx with rfl | rfl <;> exact plainT hn h0 _
  r2 := by rw [rngS, if_pos (len14 hn he).1, (len14 hn he).2, endB3, if_neg (by simp only [bl3]; omega)]
  c3 := by
    intro a ha; rw [o14f hn he] at ha
    simp only [List.mem_cons, List.not_mem_nil, or_false] at ha
    rcases ha with rfl | rfl | rfl <;> simp [fitA, bl3, (uT14 hn he _).1, (uP14 _).1] <;> omega
  c4 := by
    rw [endB3, show (bl3 n).to = 2 * (n : Int) + 1 from rfl, left3 hn he]; intro a ha; rw [o14f hn he] at ha
    simp only [List.mem_cons, List.not_mem_nil, or_false] at ha
    rcases ha with rfl | rfl | rfl <;> simp [fitA, (uT14 hn he _).1] <;> omega
  p2 := by
    rw [endB3, show (bl3 n).to = 2 * (n : Int) + 1 from rfl, left3 hn he, right2 hn he]; exact ⟨NoJoin.one (Nat.le_refl _), fun x hx => by rw [List.mem_singleton.1 hx]; exact ⟨rfl, rfl, fun h => absurd (show (2 : Int) = 7 from h) (by decide), fun h => absurd (show (2 : Int) = 1 from h) (by decide)⟩⟩
  mk_ := by rw [endB3, show (bl3 n).to = 2 * (n : Int) + 1 from rfl, left3 hn he, right2 hn he]
theorem at14 (hn : n = cntS s) (he : utfS s = 0) (h0 : 0 < n) (h40 : n ≤ 40) (hq : q ≠ []) (t : Int) (i : Nat) (h : (t = 0 ∧ i = 0) ∨ (t = n ∧ i = 1) ∨ (t = 2 * (n : Int) ∧ i = 2)) : AtOk (fl14 s q p) t (bl3 n) (itP2 p) i 0 where
  blk := blk14 hn he h0 h40 hq
  at_ := by
    rw [atS, if_pos (len14 hn he).1, bl14f hn he h0]
    have h1 : inBlk t (bl3 n) = true := by
      show (decide ((0 : Int) ≤ t) && decide (t < 2 * (n : Int) + 1)) = true
      simp only [Bool.and_eq_true, decide_eq_true_eq]; omega
    simp [h1]
  kind := rfl
  ri := by
    rw [rixS, if_pos (len14 hn he).1, (len14 hn he).2, if_neg (by omega), o14f hn he]
    rcases h with ⟨rfl, rfl⟩ | ⟨rfl, rfl⟩ | ⟨rfl, rfl⟩
    · have h1 : ovr 0 (0, itT s []) = true := by simp [ovr, (uT14 hn he _).1]; omega
      simp [List.findIdx?_cons, h1]
    · have h1 : ovr (n : Int) (0, itT s []) = false := by simp [ovr, (uT14 hn he _).1]
      have h2 : ovr (n : Int) (n, itT s q) = true := by simp [ovr, (uT14 hn he _).1]; omega
      simp [List.findIdx?_cons, h1, h2]
    have h1 : ovr (2 * (n : Int)) (0, itT s []) = false := by simp [ovr, (uT14 hn he _).1]; omega
    have h2 : ovr (2 * (n : Int)) (n, itT s q) = false := by simp [ovr, (uT14 hn he _).1]; omega
    have h3 : ovr (2 * (n : Int)) (n + n, itP2 p) = true := by simp [ovr, (uP14 _).1]; omega
    simp [List.findIdx?_cons, h1, h2, h3]
    omega
  lt := by rcases h with ⟨_, rfl⟩ | ⟨_, rfl⟩ | ⟨_, rfl⟩ <;> simp [fl14]
theorem zProp1 (x : PropD) : szRs [x.dat] ≤ 100 := by simp [szRs, szR, szD, PropD.dat]
theorem zHdP {p : List PropD} (h : p = [] ∨ ∃ x, p = [x]) : zHead (hdP p) ≤ 200 := by
  rcases h with rfl | ⟨x, rfl⟩
  · rw [← hd0_eq, h00]; decide
  have := zProp1 x; rw [zHead_eq]
  simp only [hdP, List.map_cons, List.map_nil, szRs] at this ⊢
  omega
theorem zfl14 (hs : s.size ≤ 40) {q p : List PropD} (hq : q = [] ∨ ∃ x, q = [x]) (hp : p = [] ∨ ∃ x, p = [x]) : zItems (fl14 s q p) ≤ 1073741824 := by
  have h1 := zHdP hq; have h2 := zHdP hp; have h3 : zHead (hdP []) ≤ 200 := zHdP (.inl rfl); have e1 := zItem_eq (itT s []); have e2 := zItem_eq (itT s q); have e3 := zItem_eq (itP2 p); rw [show (itT s []).head = hdP [] from rfl, show (itT s []).text = s from rfl, show zItems (itT s []).flow = 0 from rfl, show zRows (itT s []).rows = 0 from rfl] at e1; rw [show (itT s q).head = hdP q from rfl, show (itT s q).text = s from rfl, show zItems (itT s q).flow = 0 from rfl, show zRows (itT s q).rows = 0 from rfl] at e2; rw [show (itP2 p).head = hdP p from rfl, show (itP2 p).text.size = 0 from rfl, show zItems (itP2 p).flow = 0 from rfl, show zRows (itP2 p).rows = 0 from rfl] at e3
  simp only [zItems, fl14, List.map_cons, List.map_nil, szRs]
  omega
theorem zone14 (hs : s.size ≤ 40) : zItems [itT s []] ≤ 1073741824 := by
  have h3 : zHead (hdP []) ≤ 200 := zHdP (.inl rfl); have e1 := zItem_eq (itT s []); rw [show (itT s []).head = hdP [] from rfl, show (itT s []).text = s from rfl, show zItems (itT s []).flow = 0 from rfl, show zRows (itT s []).rows = 0 from rfl] at e1
  simp only [zItems, List.map_cons, List.map_nil, szRs]
  omega
end
end
section
open Go.RowKit
theorem en36k14b : ∀ args w, (callFunc 36 args).run Tryz.prog w = .ok (.enter 36 args) w := enters Tryz.func36 rfl (by kernel_rfl)
theorem en37k14b : ∀ args w, (callFunc 37 args).run Tryz.prog w = .ok (.enter 37 args) w := enters Tryz.func37 rfl (by kernel_rfl)
theorem sr50k14b : Srt Tryz.prog 50 [(0, 1), (1, 5), (6, 1), (7, 4)] [.slice none 0 0, .slice none 0 0, .int .i64 0, .int .i64 0, .slice none 0 0, .slice none 0 0, .slice none 0 0, .slice none 0 0, .slice none 0 0, .slice none 0 0, .slice none 0 0] := ⟨by kernel_rfl, by kernel_rfl⟩
theorem en39k14b : ∀ args w, (callFunc 39 args).run Tryz.prog w = .ok (.enter 39 args) w := enters Tryz.func39 rfl (by kernel_rfl)
theorem en41k14b : ∀ args w, (callFunc 41 args).run Tryz.prog w = .ok (.enter 41 args) w := enters Tryz.func41 rfl (by kernel_rfl)
theorem en40k14b : ∀ args w, (callFunc 40 args).run Tryz.prog w = .ok (.enter 40 args) w := enters Tryz.func40 rfl (by kernel_rfl)
theorem fd98_1k14b : Fld Tryz.prog 98 1 1 := ⟨by kernel_rfl⟩
def csSec : List (List Value) := [itC 1 ⟨#[97]⟩ (.slice none 0 0), itC 3 ⟨#[]⟩ (.slice none 0 0), itC 1 ⟨#[98]⟩ (.slice none 0 0)]
theorem csSec_rep {G : GH} : RepCat G 11 (exSec.map ItemD.dat) csSec.flatten := by
  refine ⟨csSec, rfl, rfl, fun j q cs hr hc => ?_⟩
  match j, hr, hc with
  | 0, hr, hc => cases hr; cases hc; exact ⟨it_rep _ _, rfl⟩
  | 1, hr, hc => cases hr; cases hc; exact ⟨it_rep _ _, rfl⟩
  | 2, hr, hc => cases hr; cases hc; exact ⟨it_rep _ _, rfl⟩
  | n + 3, hr, hc => cases hc
theorem hb3 : (blocksS ex14).findIdx? (fun x => decide ((⟨1, 0, 3, true⟩ : BlkD) = x)) = some 0 := by rw [bs14]; decide
theorem hb2 : (blocksS ex14).findIdx? (fun x => decide ((⟨1, 0, 2, false⟩ : BlkD) = x)) = none := by rw [bs14]; decide
theorem txt3 (G : GH) (w0 : World) (hG : Hold G w0) (v : Value) (hv : RepV G (.sl 11 (ex14.map ItemD.dat)) v) :
    Calls Tryz.prog 37 #[v, .agg #[vi 1, vi 0, vi 3, .bool true]] w0 (Ret w0 G fun u G' => u = .tuple #[.string ⟨#[97, 98]⟩, vi 0]) := by
  have e2 : endB ⟨1, 0, 3, true⟩ = 2 := rfl; have h := ptext_spec G w0 hG ex14 ⟨1, 0, 3, true⟩ v hv z14 e14 0 hb3 ⟨by decide, by decide⟩; rw [e2, lf2, rg0, lf3, rg2] at h; have h2 := h (by rw [rngS, if_pos e14, l14]; rfl) cut2 cut0 plA (by rw [rngS, if_pos e14, l14]; rfl) cut3 cut22 plPara (fun x hx => by rw [List.mem_singleton.1 hx]; rfl) (by decide); exact h2
set_option maxHeartbeats 1000000 in
theorem known14 (G : GH) (w0 : World) (hG : Hold G w0) : Calls Tryz.prog 10 #[] w0 (Ret w0 G fun u G' => u = .bool true) := by
  refine enter (N := 82) (T := []) (F := fun k => k < w0.heap.size) (L := []) Tryz.func10 rfl Tryz.ntmps10 rfl rfl hG (fun _ h => h) (fun _ h => by cases h) (fun _ h => by cases h) (fun _ h => by cases h) List.Pairwise.nil ?_; intro a H; refine c_seqR (fun _ hK1 => ?_); refine s_assign H wn rfl rfl ?_; clear H; intro a H; refine hK1 _ _ ?_; clear hK1; refine c_seqR (fun _ hK2 => ?_); refine s_call en36k14b H wn rfl (example14_spec _ _ H.hp.ro) rfl ?_; clear H; rintro v9 G9 a w hv9 hm9 H; refine s_call en35pas H wn rfl (Blocks_spec _ _ H.hp.ro ex14 _ hv9 z14) rfl ?_; clear H; rintro v10 G10 a w ⟨x10, rfl, hb10⟩ hm10 H; rw [e14] at H; rw [bs14] at hb10; obtain ⟨bA, bn, bc, rfl⟩ := hb10.form; obtain rfl : bn = 6 := hb10.len; obtain ⟨bb, bo, cs1, rfl, -, hrow1, hr1⟩ := hb10.at_ 1 (bkDat ⟨1, 3, 4, false⟩) rfl; obtain rfl := bk_of hr1; obtain ⟨bb', bo', cs3, he, -, hrow3, hr3⟩ := hb10.at_ 3 (bkDat ⟨4, 5, 6, false⟩) rfl
  obtain ⟨rfl, rfl⟩ : bb = bb' ∧ bo = bo' := by simpa using he
  obtain rfl := bk_of hr3; refine s_move H wn rfl rfl ?_; clear H; intro a H; (iterate 2 refine s_extract H wn rfl rfl rfl ?_; clear H; intro a H); (iterate 2 refine s_assign H wn rfl rfl ?_; clear H; intro a H); refine hK2 _ _ ?_; clear hK2; refine c_seqR (fun _ hK3 => ?_); refine s_call en36k14b H wn rfl (example14_spec _ _ H.hp.ro) rfl ?_; clear H; rintro v14 G14 a w hv14 hm14 H; refine s_build sr91par [_, _, _, _] H wn rfl rfl rfl rfl ?_; clear H; intro a H; refine s_call en37k14b H wn rfl (txt3 _ _ H.hp.ro _ hv14) rfl ?_; clear H; rintro v16 G16 a w rfl hm16 H; refine s_move H wn rfl rfl ?_; clear H; intro a H; (iterate 2 refine s_extract H wn rfl rfl rfl ?_; clear H; intro a H); (iterate 2 refine s_assign H wn rfl rfl ?_; clear H; intro a H); refine hK3 _ _ ?_; clear hK3; refine c_seqR (fun _ hK4 => ?_); refine s_call en36k14b H wn rfl (example14_spec _ _ H.hp.ro) rfl ?_; clear H; rintro v20 G20 a w hv20 hm20 H; refine s_build sr91par [_, _, _, _] H wn rfl rfl rfl rfl ?_; clear H; intro a H; refine s_call en38chr H wn rfl (ownNone_spec _ _ H.hp.ro ex14 ⟨1, 0, 2, false⟩ _ hv20 z14 e14 hb2) rfl ?_; clear H; rintro v22 G22 a w ⟨x22, rfl⟩ hm22 H; refine s_move H wn rfl rfl ?_; clear H; intro a H; (iterate 2 refine s_extract H wn rfl rfl rfl ?_; clear H; intro a H); (iterate 2 refine s_assign H wn rfl rfl ?_; clear H; intro a H); refine hK4 _ _ ?_; clear hK4; refine c_seqR (fun _ hK5 => ?_); refine s_call en9k14 H wn rfl (text14_spec _ _ H.hp.ro _) rfl ?_; clear H; rintro v25 _ a w ⟨rfl, rfl⟩ hm25 H; refine s_build sr35k14 [_, _, _, _, _, _, _, _, _, _, _] H wn rfl rfl rfl rfl ?_; clear H; intro a H; refine s_call en9k14 H wn rfl (text14_spec _ _ H.hp.ro _) rfl ?_; clear H; rintro v27 _ a w ⟨rfl, rfl⟩ hm27 H; refine s_buildAll un32run ty35run csSec H wn rfl rfl rfl rfl rfl rfl rfl ?_; clear H; intro b28 a w hb28 H; obtain ⟨G28, hm28, hb28', H⟩ := H.giveBox; have hr28 : RepV G28 (.sl 11 (exSec.map ItemD.dat)) (.slice (some ⟨b28, 0, none⟩) 3 3) := RepV.of_row (n := 3) (cap := 3) hb28' rfl (Nat.le_refl _) (show 3 ≤ maxLen by decide) (List.take_of_length_le (Nat.le_refl _)) csSec_rep; refine s_build sr50k14b [_, _, _, _, _, _, _, _, _, _, _] H wn rfl rfl rfl rfl ?_; clear H; intro a H; refine s_call en39k14b H wn rfl (sections_spec _ _ H.hp.ro ⟨(some ⟨b28, 0, none⟩, 3, 3), (none, 0, 0), (none, 0, 0), (none, 0, 0), (none, 0, 0), (none, 0, 0), (none, 0, 0), (none, 0, 0), (none, 0, 0), 0, 0⟩ exSec [] hr28 (RepV.nil_ (A := none) (n := 0) (c := 0) rfl (by decide)) zSec (by decide)) rfl ?_; clear H; rintro v30 G30 a w hv30 hm30 H; rw [sSec] at hv30; obtain ⟨sA, sn, sc, rfl⟩ := hv30.form; obtain rfl : sn = 2 := hv30.len; obtain ⟨sb, so, cs5, rfl, -, hrow5, hr5⟩ := hv30.at_ 0 (PartD.dat ⟨0, 2, true, []⟩) rfl; obtain ⟨qA, qn, qc, rfl⟩ := part_of hr5; replace hrow1 := fun j u hj => gcell_mono (fun b o h => hm30 b o (hm28 b o (hm22 b o (hm20 b o (hm16 b o (hm14 b o h)))))) (hrow1 j u hj); replace hrow3 := fun j u hj => gcell_mono (fun b o h => hm30 b o (hm28 b o (hm22 b o (hm20 b o (hm16 b o (hm14 b o h)))))) (hrow3 j u hj); refine s_assign H wn rfl rfl ?_; clear H; intro a H; refine hK5 _ _ ?_; clear hK5; refine c_seqR (fun _ hK6 => ?_); refine s_move H wn rfl rfl ?_; clear H; intro a H; refine s_cmp H wn rfl rfl rfl rfl ?_; clear H; intro a H; refine s_move H wn rfl rfl ?_; clear H; intro a H; refine s_split H 33 rfl ?_ ?_
  · intro h33
    try have p33 := of_decide_eq_true h33
    refine s_move H (wg H rfl rfl h33) rfl rfl ?_; clear H; intro a H; refine s_len un84pas H (wg H rfl rfl h33) rfl rfl ?_; clear H; intro a H; refine s_cmp H (wg H rfl rfl h33) rfl rfl rfl rfl ?_; clear H; intro a H; refine s_pick_t H wn rfl h33 rfl rfl ?_; clear H; intro a H; refine s_move H wn rfl rfl ?_; clear H; intro a H; refine s_split H 38 rfl ?_ ?_
    · intro h38
      try have p38 := of_decide_eq_true h38
      refine s_move H (wg H rfl rfl h38) rfl rfl ?_; clear H; intro a H; refine s_call en36k14b H (wg H rfl rfl h38) rfl (example14_spec _ _ H.hp.ro) rfl ?_; clear H; rintro v40 G40 a w hv40 hm40 H; refine s_call en41k14b H (wg H rfl rfl h38) rfl (blocks14_spec _ _ H.hp.ro ex14 _ hv40 z14) rfl ?_; clear H; rintro v41 G41 a w hv41 hm41 H; rw [model_is, b14] at hv41; refine s_call en40k14b H (wg H rfl rfl h38) rfl (same14_spec _ _ H.hp.ro bl14 bl14 _ _ (hb10.mono fun b o h => hm41 b o (hm40 b o (hm30 b o (hm28 b o (hm22 b o (hm20 b o (hm16 b o (hm14 b o h)))))))) hv41) rfl ?_; clear H; rintro v42 G42 a w ⟨b42, rfl, hb42, -⟩ hm42 H; obtain rfl := hb42 rfl; replace hrow1 := fun j u hj => gcell_mono (fun b o h => hm42 b o (hm41 b o (hm40 b o h))) (hrow1 j u hj); replace hrow3 := fun j u hj => gcell_mono (fun b o h => hm42 b o (hm41 b o (hm40 b o h))) (hrow3 j u hj); have hrow5 := fun j u hj => gcell_mono (fun b o h => hm42 b o (hm41 b o (hm40 b o h))) (hrow5 j u hj); have r3 := hrow3 0 _ rfl; have r5 := hrow5 1 _ rfl; refine s_pick_t H wn rfl h38 rfl rfl ?_; clear H; intro a H; refine s_move H wn rfl rfl ?_; clear H; intro a H; refine s_split H 44 rfl ?_ ?_
      · intro h44
        try have p44 := of_decide_eq_true h44
        refine s_move H (wg H rfl rfl h44) rfl rfl ?_; clear H; intro a H; refine s_index un84pas ty91par 1 H (wg H rfl rfl h44) rfl rfl rfl (by omega) rfl ?_; clear H; intro a H; refine s_loada ty91par (cs := [_, _, _, _]) H (wg H rfl rfl h44) rfl rfl (fun j v hj => H.hp.gcell (hrow1 j v hj)) rfl ?_; clear H; intro a H; refine s_build sr91par [_, _, _, _] H (wg H rfl rfl h44) rfl rfl rfl rfl ?_; clear H; intro a H; refine s_eqs (.inl rfl) eqs91l14b H (wg H rfl rfl h44) rfl rfl rfl rfl ?_; clear H; intro a H; refine s_pick_t H wn rfl h44 rfl rfl ?_; clear H; intro a H; refine s_move H wn rfl rfl ?_; clear H; intro a H; refine s_split H 51 rfl ?_ ?_
        · intro h51
          try have p51 := of_decide_eq_true h51
          refine s_move H (wg H rfl rfl h51) rfl rfl ?_; clear H; intro a H; refine s_index un84pas ty91par 3 H (wg H rfl rfl h51) rfl rfl rfl (by omega) rfl ?_; clear H; intro a H; refine s_field fd91_0par H (wg H rfl rfl h51) rfl rfl ?_; clear H; intro a H; refine s_load ty3run H (wg H rfl rfl h51) rfl (H.hp.gcell (by assumption)) rfl ?_; clear H; intro a H; refine s_cmp H (wg H rfl rfl h51) rfl rfl rfl rfl ?_; clear H; intro a H; refine s_pick_t H wn rfl h51 rfl rfl ?_; clear H; intro a H; refine s_move H wn rfl rfl ?_; clear H; intro a H; refine s_split H 58 rfl ?_ ?_
          · intro h58
            try have p58 := of_decide_eq_true h58
            refine s_move H (wg H rfl rfl h58) rfl rfl ?_; clear H; intro a H; refine s_cmp H (wg H rfl rfl h58) rfl rfl rfl rfl ?_; clear H; intro a H; refine s_pick_t H wn rfl h58 rfl rfl ?_; clear H; intro a H; refine s_move H wn rfl rfl ?_; clear H; intro a H; refine s_split H 62 rfl ?_ ?_
            · intro h62
              try have p62 := of_decide_eq_true h62
              refine s_move H (wg H rfl rfl h62) rfl rfl ?_; clear H; intro a H; refine s_eqstr H (wg H rfl rfl h62) rfl rfl rfl ?_; clear H; intro a H; refine s_pick_t H wn rfl h62 rfl rfl ?_; clear H; intro a H; refine s_move H wn rfl rfl ?_; clear H; intro a H; refine s_split H 66 rfl ?_ ?_
              · intro h66
                try have p66 := of_decide_eq_true h66
                refine s_move H (wg H rfl rfl h66) rfl rfl ?_; clear H; intro a H; refine s_cmp H (wg H rfl rfl h66) rfl rfl rfl rfl ?_; clear H; intro a H; refine s_pick_t H wn rfl h66 rfl rfl ?_; clear H; intro a H; refine s_move H wn rfl rfl ?_; clear H; intro a H; refine s_split H 70 rfl ?_ ?_
                · intro h70
                  try have p70 := of_decide_eq_true h70
                  refine s_move H (wg H rfl rfl h70) rfl rfl ?_; clear H; intro a H; refine s_len un93sec H (wg H rfl rfl h70) rfl rfl ?_; clear H; intro a H; refine s_cmp H (wg H rfl rfl h70) rfl rfl rfl rfl ?_; clear H; intro a H; refine s_pick_t H wn rfl h70 rfl rfl ?_; clear H; intro a H; refine s_move H wn rfl rfl ?_; clear H; intro a H; refine s_split H 75 rfl ?_ ?_
                  · intro h75
                    try have p75 := of_decide_eq_true h75
                    refine s_move H (wg H rfl rfl h75) rfl rfl ?_; clear H; intro a H; refine s_index un93sec ty98sec 0 H (wg H rfl rfl h75) rfl rfl rfl (by omega) rfl ?_; clear H; intro a H; refine s_field fd98_1k14b H (wg H rfl rfl h75) rfl rfl ?_; clear H; intro a H; refine s_load ty3run H (wg H rfl rfl h75) rfl (H.hp.gcell (by assumption)) rfl ?_; clear H; intro a H; refine s_cmp H (wg H rfl rfl h75) rfl rfl rfl rfl ?_; clear H; intro a H; refine s_pick_t H wn rfl h75 rfl rfl ?_; clear H; intro a H; refine s_assign H wn rfl rfl ?_; clear H; intro a H; refine hK6 _ _ ?_; clear hK6; refine c_ret ?_; refine (leave1 H Tryz.results10 (.cons (rv_tmp H rfl) .nil) ?_).1; exact H.hp.ret (by first | rfl | simp [getI])
                  intro h75
                  try have p75 := of_decide_eq_false h75
                  exact absurd h75 (by decide)
                intro h70
                try have p70 := of_decide_eq_false h70
                exact absurd h70 (by decide)
              intro h66
              try have p66 := of_decide_eq_false h66
              exact absurd h66 (by simp [ByteArray.toList_eq])
            intro h62
            try have p62 := of_decide_eq_false h62
            exact absurd h62 (by decide)
          intro h58
          try have p58 := of_decide_eq_false h58
          exact absurd h58 (by decide)
        intro h51
        try have p51 := of_decide_eq_false h51
        exact absurd h51 (by decide)
      intro h44
      try have p44 := of_decide_eq_false h44
      exact absurd h44 (by decide)
    intro h38
    try have p38 := of_decide_eq_false h38
    exact absurd h38 (by decide)
  intro h33
  try have p33 := of_decide_eq_false h33
  exact absurd h33 (by decide)
end
section
open Go.RowKit
section
variable {N : Nat} {D : List Deferred} {w0 : World} {F : Nat → Prop} {G0 G G1 G2 : GH} {L L1 L2 : OL} {T Xs : List (Nat × Value)}
variable {r : Option Nat} {P : Program} {Q : Exit → Act → World → Prop} {l : List Oper} {a a' : Act} {w w' : World}
theorem DX.perm {pr : Nat → Value → GH → Prop} {S : Nat → Bool} (h : DX N D w0 F G0 G L1 T l pr S a w) (hp : L1.Perm L2) : DX N D w0 F G0 G L2 T l pr S a w := by
  obtain ⟨G1, hG, HS, hv⟩ := h
  exact ⟨G1, hG, HS.perm hp, hv⟩
theorem c_drawM2 {id : Nat} (hm : P.follows .mixedOrders = true) (clo : List (List Nat)) (B : List Nat) (hk : drawOk l clo = true) (hB : tailOk l clo B = true) (m1 m2 : Nat) (hmB1 : B.contains m1 = false) (hmB2 : B.contains m2 = false) (hne : Nat.beq m1 m2 = false) (ob1 ob2 : Obj) (pr : Nat → Nat → Nat → Value → GH → Prop)
    (hp1 : ∀ b b' c i v G, Nat.beq i m1 = false → (clo.getD i []).contains m1 = false → pr b c i v G → pr b' c i v G)
    (hp2 : ∀ b c c' i v G, Nat.beq i m2 = false → (clo.getD i []).contains m2 = false → pr b c i v G → pr b c' i v G)
    (H : St N D w0 F G0 G L T a w)
    (hstep : allI (fun i o => ∀ b c L' S a w G1, (∀ x, x ∈ L → x ∈ L') → B.contains i = false → Nat.beq i m1 = false → Nat.beq i m2 = false → S i = false → (∀ j ∈ clo.getD i [], S j = true) → (∀ k o, G k = some o → G1 k = some o) → St N D w0 F G0 G1 L' T a w → (∀ i d, S i = true → dstOf l i = some d → ∃ v, a.tmps[d]? = some v ∧ pr b c i v G1) →
      WL r P l.toArray (fun e a' w' => e = .normal ∧ DX N D w0 F G0 G L' T l (pr b c) (setT S i) a' w') [o] a w) 0 l)
    (hmid1 : ∀ o c L' S a w G1, (∀ x, x ∈ L → x ∈ L') → l[m1]? = some o → S m1 = false → (∀ j ∈ clo.getD m1 [], S j = true) → (∀ k o, G k = some o → G1 k = some o) → St N D w0 F G0 G1 L' T a w → (∀ b i d, i ≠ m1 → S i = true → dstOf l i = some d → ∃ v, a.tmps[d]? = some v ∧ pr b c i v G1) →
      WL r P l.toArray (fun e a' w' => e = .normal ∧ ∃ b, DX N D w0 F G0 G ((b, ob1) :: L') T l (pr b c) (setT S m1) a' w') [o] a w)
    (hmid2 : ∀ o b L' S a w G1, (∀ x, x ∈ L → x ∈ L') → l[m2]? = some o → S m2 = false → (∀ j ∈ clo.getD m2 [], S j = true) → (∀ k o, G k = some o → G1 k = some o) → St N D w0 F G0 G1 L' T a w → (∀ c i d, i ≠ m2 → S i = true → dstOf l i = some d → ∃ v, a.tmps[d]? = some v ∧ pr b c i v G1) →
      WL r P l.toArray (fun e a' w' => e = .normal ∧ ∃ c, DX N D w0 F G0 G ((c, ob2) :: L') T l (pr b c) (setT S m2) a' w') [o] a w)
    (hend : ∀ b c a w G1, (∀ k o, G k = some o → G1 k = some o) → St N D w0 F G0 G1 ((b, ob1) :: (c, ob2) :: L) T a w → (∀ i d, B.contains i = false → dstOf l i = some d → ∃ v, a.tmps[d]? = some v ∧ pr b c i v G1) → WL r P l.toArray (fun e a w => e = .normal ∧ Q .normal a w) (opsAt l B) a w)
    (hml1 : Nat.blt m1 l.length = true) (hml2 : Nat.blt m2 l.length = true) : WP r P (.region id l.toArray true) Q a w := by
  have hne' : m1 ≠ m2 := fun e => by subst e; rw [Nat.beq_refl] at hne; cases hne
  refine c_drawG hm clo B hk hB (fun S a w => ∃ b c L', L' = (bif S m1 then [(b, ob1)] else []) ++ ((bif S m2 then [(c, ob2)] else []) ++ L) ∧ DX N D w0 F G0 G L' T l (pr b c) S a w)
    ⟨0, 0, L, rfl, G, fun _ _ h => h, H.move H.hp.drew, fun _ _ h => absurd (show false = true from h) (by decide)⟩ ?_ ?_
  · rintro i o S a w ho hb hSi hclo hdesc ⟨b, c, L', hL, G1, hG, HS, hv⟩
    have hsub : ∀ x, x ∈ L → x ∈ L' := fun x hx => by rw [hL]; exact List.mem_append_right _ (List.mem_append_right _ hx)
    have hno : ∀ j, j < l.length → S j = true → (clo.getD j []).contains i = false := fun j hjl hj => by
      cases hc : (clo.getD j []).contains i with
      | false => rfl
      | true =>
        have := hdesc j hjl (by simpa using hc)
        rw [this] at hj; cases hj
    by_cases h1 : i = m1
    · subst h1
      have h := hmid1 o c L' S a w G1 hsub ho hSi hclo hG HS fun b' j d hj hSj hd => by
        obtain ⟨v, hv1, hv2⟩ := hv j d hSj hd
        exact ⟨v, hv1, hp1 b b' c j v _ (beq_no hj) (hno j (dstOf_lt hd) hSj) hv2⟩
      refine wl_mono (fun e a' w' ⟨he, b', hD⟩ => ⟨he, b', c, _, ?_, hD⟩) h
      rw [hL, hSi, show setT S i i = true from if_pos rfl, show setT S i m2 = S m2 from if_neg (fun e => hne' e.symm)]
      rfl
    · by_cases h2 : i = m2
      · subst h2
        have h := hmid2 o b L' S a w G1 hsub ho hSi hclo hG HS fun c' j d hj hSj hd => by
          obtain ⟨v, hv1, hv2⟩ := hv j d hSj hd
          exact ⟨v, hv1, hp2 b c c' j v _ (beq_no hj) (hno j (dstOf_lt hd) hSj) hv2⟩
        refine wl_mono (fun e a' w' ⟨he, c', hD⟩ => ⟨he, b, c', _, rfl, hD.perm ?_⟩) h
        rw [hL, hSi, show setT S i i = true from if_pos rfl, show setT S i m1 = S m1 from if_neg hne']
        cases S m1 with
        | false => exact List.Perm.refl _
        | true => exact List.Perm.swap _ _ _
      · have h := allI_get hstep i o ho
        rw [Nat.zero_add] at h
        have e1 : setT S i m1 = S m1 := if_neg (fun e => h1 e.symm)
        have e2 : setT S i m2 = S m2 := if_neg (fun e => h2 e.symm)
        refine wl_mono (fun e a' w' ⟨he, hD⟩ => ⟨he, b, c, L', ?_, hD⟩) (h b c L' S a w G1 hsub hb (beq_no h1) (beq_no h2) hSi hclo hG HS hv)
        rw [e1, e2]; exact hL
  · rintro S a w hall hnB ⟨b, c, L', hL, G1, hG, HS, hv⟩
    have hs1 : S m1 = true := hall m1 (Eq.mp Nat.blt_eq hml1) hmB1
    have hs2 : S m2 = true := hall m2 (Eq.mp Nat.blt_eq hml2) hmB2
    rw [hs1, hs2] at hL
    subst hL
    exact hend b c a w G1 hG HS fun j d hb hd => hv j d (hall j (dstOf_lt hd) hb) hd
end
end
section
open Go.RowKit
structure FldV (P : Program) (s n off u : Nat) : Prop where
  h : (match P.underlying s with | some (.struct fs) => (fs[n]?).map fun f => (f.offset, f.type) | _ => none) = some (off, u)
theorem FldV.parts {P : Program} {s n off u : Nat} (h : FldV P s n off u) : ∃ fs fl, P.underlying s = some (.struct fs) ∧ fs[n]? = some fl ∧ fl.offset = off ∧ fl.type = u := by
  obtain ⟨h⟩ := h
  split at h
  · rename_i fs hs
    obtain ⟨fl, hf, h2⟩ := Option.map_eq_some_iff.1 h
    simp only [Prod.mk.injEq] at h2
    exact ⟨fs, fl, hs, hf, h2.1, h2.2⟩
  · cases h
section
variable {N : Nat} {D : List Deferred} {w0 : World} {F : Nat → Prop} {G0 G : GH} {L : OL} {T : List (Nat × Value)}
variable {r : Option Nat} {P : Program} {ops : Array Oper} {Q : Exit → Act → World → Prop} {rest : List Oper} {a : Act} {w : World}
variable {d : Nat} {ty : TypeId} {pos : String} {aft : Array Edge} {g : Option (Nat × Bool)}
theorem s_fieldv {s u off n sz bytes : Nat} {zero : List Value} (hs : FldV P s n off u) (ht : Ty P u sz bytes zero false) {x : Operand} {cs : List Value} {v : Value} (H : St N D w0 F G0 G L T a w) (hw : Region.wanted ⟨some d, .field s x n, ty, pos, aft, g⟩ (yielded ops a.tmps) = true) (hx : ev T x = some (.agg cs.toArray)) (hv : cs[off]? = some v) (hd : Nat.blt d N = true)
    (k : ∀ a', St N D w0 F G0 G L ((d, v) :: T) a' w → WL r P ops Q rest a' w) : WL r P ops Q (⟨some d, .field s x n, ty, pos, aft, g⟩ :: rest) a w := by
  obtain ⟨fs, fl, h1, h2, h3, h4⟩ := hs.parts
  refine wl_value (v := v) (w' := w) hw rfl ?_ (k _ (H.put hd _ H.hp))
  simp [execOp, Instr.field, Sem.run_bind, H.ev hx, run_und h1, h2, h3, h4, part, asAgg, ht.run_agg, hv]
end
end
section
open Go.RowKit
section
variable {N : Nat} {D : List Deferred} {w0 : World} {F : Nat → Prop} {G0 G : GH} {L : OL} {T Xs : List (Nat × Value)}
variable {r : Option Nat} {P : Program} {Q : Exit → Act → World → Prop} {l : List Oper} {a a' : Act} {w w' : World}
/-- A slot, what it holds, the operation on which that hangs, and whether that one is done. -/
abbrev Ent : Type := Nat × Value × Nat × Bool
def EntOk (ent : List Ent) (S : Nat → Bool) (a : Act) : Prop := ∀ e ∈ ent, S e.2.2.1 = e.2.2.2 → a.tmps[e.1]? = some e.2.1
theorem EntOk.at {ent : List Ent} {S : Nat → Bool} {a : Act} (h : EntOk ent S a) (k : Nat) {t : Nat} {v : Value} {j : Nat} {b : Bool} (hk : ent[k]? = some (t, v, j, b)) (hS : S j = b) : a.tmps[t]? = some v := h _ (List.mem_of_getElem? hk) hS
/-- The beginning of a string. -/
theorem s_strTo {ops : Array Oper} {rest : List Oper} {d : Nat} {ty : TypeId} {pos : String} {aft : Array Edge} {g : Option (Nat × Bool)} {t : TypeId} {x y : Operand} {s : ByteArray} {ky : IntKind} {p : Int} (hi : Nat) (ht : P.underlying t = some .string) (H : St N D w0 F G0 G L T a w) (hw : Region.wanted ⟨some d, .slice t x none (some y) none, ty, pos, aft, g⟩ (yielded ops a.tmps) = true) (hx : ev T x = some (.string s)) (hy : ev T y = some (.int ky p)) (hp : p = (hi : Int)) (h1 : hi ≤ s.size) (hd : Nat.blt d N = true)
    (k : ∀ a', St N D w0 F G0 G L ((d, .string (s.extract 0 hi)) :: T) a' w → WL r P ops Q rest a' w) : WL r P ops Q (⟨some d, .slice t x none (some y) none, ty, pos, aft, g⟩ :: rest) a w := by
  subst hp
  have hr := run_slice_string_h (P := P) w t s ht ky (hi : Int) (by omega) (by omega)
  rw [Int.toNat_natCast] at hr
  refine wl_value (v := .string (s.extract 0 hi)) (w' := w) hw rfl ?_ (k _ (H.put hd _ H.hp))
  simp only [execOp, H.ev hx, Option.map_some, Option.map_none, H.ev hy, Sem.run_bind, run_sliceAt_string w t _ _ _ _ ht, hr, Result.andThen_ok, Sem.run_pure]
end
end
section
open Go.RowKit
theorem sr31psy : Srt Tryz.prog 31 [(0, 1), (1, 4)] [.slice none 0 0, .int .i64 0, .int .i64 0, .slice none 0 0, .slice none 0 0] := ⟨by kernel_rfl, by kernel_rfl⟩
theorem en11psy : ∀ args w, (callFunc 11 args).run Tryz.prog w = .ok (.enter 11 args) w := enters Tryz.func11 rfl (by kernel_rfl)
theorem en10psy : ∀ args w, (callFunc 10 args).run Tryz.prog w = .ok (.enter 10 args) w := enters Tryz.func10 rfl (by kernel_rfl)
theorem en12psy : ∀ args w, (callFunc 12 args).run Tryz.prog w = .ok (.enter 12 args) w := enters Tryz.func12 rfl (by kernel_rfl)
theorem fv46_0psy : FldV Tryz.prog 46 0 0 41 := ⟨by kernel_rfl⟩
theorem eqi40psy : EqI Tryz.prog 40 [0, 1] := ⟨by kernel_rfl, by kernel_rfl, by kernel_rfl, by kernel_rfl, by kernel_rfl⟩
theorem en14psy : ∀ args w, (callFunc 14 args).run Tryz.prog w = .ok (.enter 14 args) w := enters Tryz.func14 rfl (by kernel_rfl)
theorem samePropsS (G : GH) (w0 : World) (hG : Hold G w0) (A B : List PropD) (v u : Value) (hv : RepV G (.sl 2 (A.map PropD.dat)) v) (hu : RepV G (.sl 2 (B.map PropD.dat)) u) :
    Calls Tryz.prog 14 #[v, u] w0 (Ret w0 G fun r G' => r = .bool (decide (A = B))) := by
  obtain ⟨vA, vc, rfl, -, -, -⟩ := hv.slice; obtain ⟨uA, uc, rfl, -, -, -⟩ := hu.slice; refine enter (N := 10) (T := [(0, _), (1, _)]) (F := fun k => k < w0.heap.size) (L := []) Tryz.func14 rfl Tryz.ntmps14 rfl rfl hG (fun _ h => h) (fun _ h => by cases h) (fun _ h => by cases h) (fun _ h => by cases h) List.Pairwise.nil ?_; intro a H; refine c_seqR (fun _ hK1 => ?_); refine s_assign H wn rfl rfl ?_; clear H; intro a H; refine hK1 _ _ ?_; clear hK1; refine c_seqR (fun _ hK2 => ?_); refine s_move H wn rfl rfl ?_; clear H; intro a H; refine s_build sr31psy [_, _, _, _, _] H wn rfl rfl rfl rfl ?_; clear H; intro a H; refine s_move H wn rfl rfl ?_; clear H; intro a H; refine s_build sr31psy [_, _, _, _, _] H wn rfl rfl rfl rfl ?_; clear H; intro a H; refine s_call en48nrm H wn rfl (equalHead_spec _ _ H.hp.ro (hdP A) (hdP B) _ _ _ _ _ _ ⟨hv, RepV.nil_ rfl (by decide), RepV.nil_ rfl (by decide)⟩ ⟨hu, RepV.nil_ rfl (by decide), RepV.nil_ rfl (by decide)⟩) rfl ?_; clear H; rintro v9 G9 a w rfl hm9 H; refine s_assign H wn rfl rfl ?_; clear H; intro a H; refine hK2 _ _ ?_; clear hK2; refine c_ret ?_; refine (leave1 H Tryz.results14 (.cons (rv_tmp H rfl) .nil) ?_).1; exact H.hp.ret (congrArg Value.bool (by simp [hdP]))
theorem it_rep2 {G : GH} (k : Int) (s : ByteArray) (p : List PropD) {v : Value} (h : RepV G (.sl 2 (p.map PropD.dat)) v) : RepRow G (ItemD.mk k 0 0 s (hdP p) [] []).dat [vi k, vi 0, vi 0, .string s, v, vi 0, vi 0, .slice none 0 0, .slice none 0 0, .slice none 0 0, .slice none 0 0] :=
  RepRow.mkItem (x := ItemD.mk k 0 0 s (hdP p) [] []) ⟨h, RepV.nil_ rfl (by decide), RepV.nil_ rfl (by decide)⟩ (RepV.nil_ (A := none) (n := 0) (c := 0) rfl (by decide)) (RepV.nil_ (A := none) (n := 0) (c := 0) rfl (by decide))
theorem prop_one {G : GH} {b : Nat} (x : PropD) (h : G b = some (.cells [vi x.key, vi x.value].toArray 40 (0, 0))) : RepV G (.sl 2 ([x].map PropD.dat)) (.slice (some ⟨b, 0, none⟩) 1 1) :=
  props_lit [x] h (show 1 ≤ maxLen by decide)
theorem one14 (q : ByteArray) : lenS [itT q []] = (if utfS q = 0 then (cntS q : Int) else 0) ∧ (lenE [itT q []] = 0 ↔ utfS q = 0) := by
  have h1 : unitsS (itT q []) = cntS q := by simp [unitsS, itT, ItemD.kind, ItemD.text]
  have h2 : unitsE (itT q []) = utfS q := by simp [unitsE, itT, ItemD.kind, ItemD.text]
  rw [lenS_one, n1, h1, h2]
  constructor
  · split <;> rfl
  simp [lenE, divS, h2]
theorem chrT (s : ByteArray) (p : List PropD) : chrP (itT s p) = p := if_pos ⟨fun h => absurd (show (1 : Int) = 2 from h) (by decide), fun h => absurd (show (1 : Int) = 8 from h) (by decide)⟩
theorem chrM (p : List PropD) : chrP (itP2 p) = [] := if_neg fun h => h.1 rfl
abbrev itW (k : Int) (s : ByteArray) (v : Value) : List Value := [vi k, vi 0, vi 0, .string s, v, vi 0, vi 0, .slice none 0 0, .slice none 0 0, .slice none 0 0, .slice none 0 0]
def cs14f (q : ByteArray) (v u : Value) : List (List Value) := [itW 1 q (.slice none 0 0), itW 1 q v, itW 2 ⟨#[]⟩ u]
theorem cs14f_rep {G : GH} {s : ByteArray} {q p : List PropD} {v u : Value} (hv : RepV G (.sl 2 (q.map PropD.dat)) v) (hu : RepV G (.sl 2 (p.map PropD.dat)) u) : RepCat G 11 ((fl14 s q p).map ItemD.dat) (cs14f s v u).flatten := by
  refine ⟨cs14f s v u, rfl, rfl, fun j r cs hr hc => ?_⟩
  match j, hr, hc with
  | 0, hr, hc => cases hr; cases hc; exact ⟨it_rep2 1 s [] (RepV.nil_ rfl (by decide)), rfl⟩
  | 1, hr, hc => cases hr; cases hc; exact ⟨it_rep2 1 s q hv, rfl⟩
  | 2, hr, hc => cases hr; cases hc; exact ⟨it_rep2 2 _ p hu, rfl⟩
  | n + 3, hr, hc => cases hc
theorem mk17_one (i : Int) : mk17 i = [] ∨ ∃ x, mk17 i = [x] := by unfold mk17; split; exact .inr ⟨_, rfl⟩; exact .inl rfl
abbrev dv14 (b : Nat) (s1 s2 s3 s4 : Option Addr × Nat × Nat) : DocV := ⟨(some ⟨b, 0, none⟩, 3, 3), (none, 0, 0), (none, 0, 0), (none, 0, 0), (none, 0, 0), s1, s2, s3, s4, 0, 0⟩
theorem n17 : ∀ x ∈ styles17, x.name.size ≤ 4611686018427387904 := by decide
theorem p17 : ∀ x ∈ styles17, x.props.length ≤ 4194304 := by decide
theorem has_yes {B : List PropD} {k : Nat} {z : PropD} {hb : Bool} (hk : k < B.length) (h : hb = decide (z ∈ B.take k)) (ht : hb = true) : true = decide (z ∈ B.take (k + 1)) := by
  rw [ht] at h; rw [List.take_succ_eq_append_getElem hk]; exact (decide_eq_true (List.mem_append_left _ (of_decide_eq_true h.symm))).symm
theorem has_no {B : List PropD} {k : Nat} {z : PropD} {hb : Bool} (hk : k < B.length) (h : hb = decide (z ∈ B.take k)) (ht : hb = false) : ([0, 1].all fun o => getI #[vi B[k].key, vi B[k].value] o == getI #[vi z.key, vi z.value] o) = decide (z ∈ B.take (k + 1)) := by
  rw [ht] at h; have h1 : z ∉ B.take k := of_decide_eq_false h.symm; rw [List.take_succ_eq_append_getElem hk, Bool.eq_iff_iff]; have h2 := PropD.eq_iff B[k] z
  simp only [decide_eq_true_eq, List.mem_append, List.mem_singleton]
  rw [show (z ∈ B.take k ∨ z = B[k]) ↔ B[k] = z from ⟨fun h => h.elim (fun h => absurd h h1) Eq.symm, fun h => .inr h.symm⟩, ← h2]
  simp [getI]
set_option maxHeartbeats 2000000 in
theorem paragraphStyles_spec (G : GH) (w0 : World) (hG : Hold G w0) (st sz : Int) (s : ByteArray) (hst : 0 ≤ st ∧ st ≤ 255) (hsz : 0 ≤ sz ∧ sz ≤ 255) (hs : s.size ≤ 9223372036854775807) :
    Calls Tryz.prog 3 #[.int .u8 st, .int .u8 sz, .string s] w0 (Ret w0 G fun u G' => u = .bool true) := by
  have hml : maxLen = 9223372036854775807 := rfl; refine enter (N := 155) (T := [(0, _), (1, _), (2, _)]) (F := fun k => k < w0.heap.size) (L := []) Tryz.func3 rfl Tryz.ntmps3 rfl rfl hG (fun _ h => h) (fun _ h => by cases h) (fun _ h => by cases h) (fun _ h => by cases h) List.Pairwise.nil ?_; intro a H; refine c_seqR (fun _ hK1 => ?_); refine s_assign H wn rfl rfl ?_; clear H; intro a H; refine hK1 _ _ ?_; clear hK1; refine c_seqR (fun _ hK2 => ?_); (iterate 2 refine s_move H wn rfl rfl ?_; clear H; intro a H); refine s_lens un9cp H wn rfl rfl ?_; clear H; intro a H; refine s_min H wn rfl rfl rfl ?_; clear H; intro a H; refine s_strTo (min s.size 40) un9cp H wn rfl rfl (by omega) (by omega) rfl ?_; clear H; intro a H
  have hq40 : (s.extract 0 (min s.size 40)).size ≤ 40 := by rw [ByteArray.size_extract]; omega
  obtain ⟨q, hq⟩ : ∃ q, q = s.extract 0 (min s.size 40) := ⟨_, rfl⟩; rw [← hq] at H hq40; have hone := one14 q; refine s_assign H wn rfl rfl ?_; clear H; intro a H; refine hK2 _ _ ?_; clear hK2; refine c_seq (fun _ hK3 => ?_); refine c_seqR (fun _ hK4 => ?_); refine s_move H wn rfl rfl ?_; clear H; intro a H; refine s_call en9k14 H wn rfl (text14_spec _ _ H.hp.ro _) rfl ?_; clear H; rintro v32 _ a w ⟨rfl, rfl⟩ - H; refine s_buildSlice un32run ty35run [_, _, _, _, _, _, _, _, _, _, _] [_, _, _, _, _, _, _, _, _, _, _] H wn rfl rfl rfl rfl rfl (by intro i q h; match i, h with | 0, h => exact h | n + 1, h => simp at h) rfl rfl ?_; clear H; intro b33 a w hb33 H; obtain ⟨G33, hm33, hr33, H⟩ := H.giveOne (sz := 11) (d := (itT q []).dat) rfl (it_rep _ _); refine s_call en8par H wn rfl (len_spec _ _ H.hp.ro [itT q []] _ hr33 (Nat.le_trans (zone14 hq40) (by decide))) rfl ?_; clear H; rintro v34 _ a w ⟨rfl, rfl⟩ - H; refine s_move H wn rfl rfl ?_; clear H; intro a H; (iterate 2 refine s_extract H wn rfl rfl rfl ?_; clear H; intro a H); (iterate 2 refine s_assign H wn rfl rfl ?_; clear H; intro a H); refine hK4 _ _ ?_; clear hK4; refine c_seqR (fun _ hK5 => ?_); refine s_call en10psy H wn rfl (known14 _ _ H.hp.ro) rfl ?_; clear H; rintro v37 G37 a w rfl hm37 H; refine s_not H wn rfl rfl ?_; clear H; intro a H; refine s_move H wn rfl rfl ?_; clear H; intro a H; refine s_split H 39 rfl ?_ ?_
  · intro h39
    try have p39 := of_decide_eq_true h39
    exact absurd h39 (by decide)
  intro h39
  try have p39 := of_decide_eq_false h39
  refine s_move H (wg H rfl rfl h39) rfl rfl ?_; clear H; intro a H; refine s_cmp H (wg H rfl rfl h39) rfl rfl rfl rfl ?_; clear H; intro a H; refine s_pick_f H wn rfl h39 rfl rfl ?_; clear H; intro a H; refine s_move H wn rfl rfl ?_; clear H; intro a H; refine s_split H 43 rfl ?_ ?_
  · intro h43
    try have p43 := of_decide_eq_true h43
    (iterate 2 refine s_skip H rfl rfl h43 rfl ?_; clear H; intro a H); refine s_pick_t H wn rfl h43 rfl rfl ?_; clear H; intro a H; refine hK5 _ _ ?_; clear hK5; refine c_cond_t H rfl rfl ?_; refine c_seqR (fun _ hK6 => ?_); refine s_call en10psy H wn rfl (known14 _ _ H.hp.ro) rfl ?_; clear H; rintro v47 G47 a w rfl hm47 H; refine s_assign H wn rfl rfl ?_; clear H; intro a H; refine hK6 _ _ ?_; clear hK6; refine c_ret ?_; refine (leave1 H Tryz.results3 (.cons (rv_tmp H rfl) .nil) ?_).1; exact H.hp.ret rfl
  intro h43
  try have p43 := of_decide_eq_false h43
  refine s_move H (wg H rfl rfl h43) rfl rfl ?_; clear H; intro a H; refine s_cmp H (wg H rfl rfl h43) rfl rfl rfl rfl ?_; clear H; intro a H; refine s_pick_f H wn rfl h43 rfl rfl ?_; clear H; intro a H; refine hK5 _ _ ?_; clear hK5; refine c_cond H rfl ?_ ?_
  · intro h46
    try have p46 := of_decide_eq_true h46
    refine c_seqR (fun _ hK7 => ?_); refine s_call en10psy H wn rfl (known14 _ _ H.hp.ro) rfl ?_; clear H; rintro v47 G47 a w rfl hm47 H; refine s_assign H wn rfl rfl ?_; clear H; intro a H; refine hK7 _ _ ?_; clear hK7; refine c_ret ?_; refine (leave1 H Tryz.results3 (.cons (rv_tmp H rfl) .nil) ?_).1; exact H.hp.ret rfl
  intro h46
  try have p46 := of_decide_eq_false h46
  refine c_skip ?_; refine hK3 _ _ ?_; clear hK3; refine c_seq (fun _ hK8 => ?_); have he : utfS q = 0 := hone.2.1 (by simpa using p43)
  have hS : lenS [itT q []] = ((cntS q : Nat) : Int) := by rw [hone.1, if_pos he]
  obtain ⟨n, hn⟩ : ∃ n, n = cntS q := ⟨_, rfl⟩; rw [hS, ← hn] at H
  have h0 : 0 < n := by rw [hS, ← hn] at p46; omega
  have h40 : n ≤ 40 := by rw [hn]; exact Nat.le_trans (cntS_le q) hq40
  obtain ⟨i, hi⟩ : ∃ i : Nat, i = (st % 4).toNat := ⟨_, rfl⟩
  obtain ⟨id, hid, hidc⟩ : ∃ id : Int, (id = 0 ∨ id = 1 ∨ id = 3 ∨ id = 4) ∧ [vi 0, vi 1, vi 3, vi 4][i]? = some (vi id) := by
    rcases (show i = 0 ∨ i = 1 ∨ i = 2 ∨ i = 3 by omega) with h | h | h | h <;> rw [h]
    · exact ⟨0, .inl rfl, rfl⟩
    · exact ⟨1, .inr (.inl rfl), rfl⟩
    · exact ⟨3, .inr (.inr (.inl rfl)), rfl⟩
    exact ⟨4, .inr (.inr (.inr rfl)), rfl⟩
  refine c_region ?_; refine s_buildSlice un38l14c ty3run [_, _, _, _] [_, _, _, _] H wn rfl rfl rfl rfl rfl (by intro i q h; match i, h with | 0, h => exact h | 1, h => exact h | 2, h => exact h | 3, h => exact h | n + 4, h => simp at h) rfl rfl ?_; clear H; intro b48 a w hb48 H; refine s_move H wn rfl rfl ?_; clear H; intro a H; refine s_remk (i : Int) H wn rfl rfl (by decide) (by rw [Int.tmod_eq_emod_of_nonneg hst.1]; omega) rfl ?_; clear H; intro a H; refine s_index un38l14c ty3run i H wn rfl rfl rfl (by omega) rfl ?_; clear H; intro a H; refine s_load ty3run H wn rfl (H.hp.mcell (c := [vi 0, vi 1, vi 3, vi 4].toArray) List.mem_cons_self (by simpa using hidc)) rfl ?_; clear H; intro a H; obtain ⟨G52, hm52, -, H⟩ := H.giveBox; refine s_assign H wn rfl rfl ?_; clear H; intro a H; refine wl_nil ?_; refine hK8 _ _ ?_; clear hK8; refine c_seqR (fun _ hK9 => ?_); refine s_build sr35k14 [_, _, _, _, _, _, _, _, _, _, _] H wn rfl rfl rfl rfl ?_; clear H; intro a H; refine s_alloc ty35run H wn rfl ?_; clear H; intro b10 a w hb10 H; refine s_store ty35run 0 (vs := [_, _, _, _, _, _, _, _, _, _, _]) _ H wn rfl rfl rfl rfl rfl rfl rfl rfl ?_; clear H; intro w H; dsimp only [List.set, setRow] at H; refine hK9 _ _ ?_; clear hK9; refine c_seqJ (ι := Value × GH) (Tc := [(1, _), (2, _), (10, _)]) (Lc := []) (fun (gh : Value × GH) => []) (fun (gh : Value × GH) => [(b10, .cells (itW 2 ⟨#[]⟩ gh.1).toArray 35 (0, 0))]) (fun (gh : Value × GH) => gh.2) (fun (gh : Value × GH) => RepV gh.2 (.sl 2 ((mk17 id).map PropD.dat)) gh.1) (by exact (H).sub ⟨rfl, rfl, rfl, trivial⟩) ?_ ?_
  · skip; refine c_seqR (fun _ hK10 => ?_); refine s_move H wn rfl rfl ?_; clear H; intro a H; refine s_cmp H wn rfl rfl rfl rfl ?_; clear H; intro a H; refine hK10 _ _ ?_; clear hK10; refine c_cond H rfl ?_ ?_
    · intro h55
      try have p55 := of_decide_eq_true h55
      refine c_region ?_; refine s_move H wn rfl rfl ?_; clear H; intro a H; refine s_build sr40s17 [_, _] H wn rfl rfl rfl rfl ?_; clear H; intro a H; refine s_buildSlice un25run ty40run [_, _] [_, _] H wn rfl rfl rfl rfl rfl (by intro i q h; match i, h with | 0, h => exact h | n + 1, h => simp at h) rfl rfl ?_; clear H; intro b58 a w hb58 H; obtain ⟨Gp, hmp, hbp, H⟩ := H.giveBox
      have hmk : RepV Gp (.sl 2 ((mk17 id).map PropD.dat)) (.slice (some ⟨b58, 0, none⟩) 1 1) := by
        rw [mk17, if_pos p55]; exact prop_one ⟨20, id⟩ hbp
      refine s_field fd35_4run H wn rfl rfl ?_; clear H; intro a H; refine s_field fd31_0run H wn rfl rfl ?_; clear H; intro a H; refine s_store ty25run 0 (vs := [_]) _ H wn rfl rfl rfl rfl rfl rfl rfl rfl ?_; clear H; intro w H; dsimp only [List.set, setRow] at H; refine wl_nil ?_; refine ⟨(_, _), by exact (H).sub ⟨rfl, rfl, rfl, trivial⟩, ?_⟩; (try dsimp only); exact hmk
    intro h55
    try have p55 := of_decide_eq_false h55
    have hmk : RepV G52 (.sl 2 ((mk17 id).map PropD.dat)) (.slice none 0 0) := by
      rw [mk17, if_neg p55]; exact RepV.nil_ rfl (by decide)
    refine c_skip ?_; refine ⟨(_, _), by exact (H).sub ⟨rfl, rfl, rfl, trivial⟩, ?_⟩; (try dsimp only); exact hmk
  clear H; intro gh a w hI H; obtain ⟨pv, g⟩ := gh; dsimp only at hI H; have hmk := hI; dsimp only [List.cons_append, List.nil_append, List.append_nil] at H; refine c_seqR (fun _ hK11 => ?_); refine s_move H wn rfl rfl ?_; clear H; intro a H; refine s_call en9k14 H wn rfl (text14_spec _ _ H.hp.ro _) rfl ?_; clear H; rintro v62 _ a w ⟨rfl, rfl⟩ - H; refine s_alloc ty35run H wn rfl ?_; clear H; intro b11 a w hb11 H; refine s_store ty35run 0 (vs := [_, _, _, _, _, _, _, _, _, _, _]) _ H wn rfl rfl rfl rfl rfl rfl rfl rfl ?_; clear H; intro w H; dsimp only [List.set, setRow] at H; refine hK11 _ _ ?_; clear hK11; refine c_seqR (fun _ hK12 => ?_); refine s_move H wn rfl rfl ?_; clear H; intro a H; refine s_conv _ un3cp un5cp H wn rfl rfl rfl ?_; clear H; intro a H; rw [i64_wrap (by omega) (by omega)] at H; refine s_add _ H wn rfl rfl rfl (by omega) (by omega) rfl ?_; clear H; intro a H; refine s_build sr40s17 [_, _] H wn rfl rfl rfl rfl ?_; clear H; intro a H; refine s_buildSlice un25run ty40run [_, _] [_, _] H wn rfl rfl rfl rfl rfl (by intro i q h; match i, h with | 0, h => exact h | n + 1, h => simp at h) rfl rfl ?_; clear H; intro b67 a w hb67 H; obtain ⟨G67, hm67, hb67', H⟩ := H.giveBox; have hz5 : RepV G67 (.sl 2 ([(⟨5, 2 + sz⟩ : PropD)].map PropD.dat)) (.slice (some ⟨b67, 0, none⟩) 1 1) := prop_one ⟨5, 2 + sz⟩ hb67'; replace hmk := hmk.mono hm67; refine s_field fd35_4run H wn rfl rfl ?_; clear H; intro a H; refine s_field fd31_0run H wn rfl rfl ?_; clear H; intro a H; refine s_store ty25run 0 (vs := [_]) _ H wn rfl rfl rfl rfl rfl rfl rfl rfl ?_; clear H; intro w H; dsimp only [List.set, setRow] at H; refine hK12 _ _ ?_; clear hK12; refine c_seqR (fun _ hK13 => ?_); refine s_move H wn rfl rfl ?_; clear H; intro a H; refine s_call en9k14 H wn rfl (text14_spec _ _ H.hp.ro _) rfl ?_; clear H; rintro v72 _ a w ⟨rfl, rfl⟩ - H; refine s_buildSlice un32run ty35run [_, _, _, _, _, _, _, _, _, _, _] [_, _, _, _, _, _, _, _, _, _, _] H wn rfl rfl rfl rfl rfl (by intro i q h; match i, h with | 0, h => exact h | n + 1, h => simp at h) rfl rfl ?_; clear H; intro b73 a w hb73 H; obtain ⟨G73, hm73, hr73, H⟩ := H.giveOne (sz := 11) (d := (itT q []).dat) rfl (it_rep _ _); refine s_call en8par H wn rfl (len_spec _ _ H.hp.ro [itT q []] _ hr73 (Nat.le_trans (zone14 hq40) (by decide))) rfl ?_; clear H; rintro v74 _ a w ⟨rfl, rfl⟩ - H; rw [hS, ← hn] at H; replace hmk := hmk.mono hm73; replace hz5 := hz5.mono hm73; refine s_move H wn rfl rfl ?_; clear H; intro a H; (iterate 2 refine s_extract H wn rfl rfl rfl ?_; clear H; intro a H); (iterate 2 refine s_assign H wn rfl rfl ?_; clear H; intro a H); refine hK13 _ _ ?_; clear hK13; refine c_seq (fun _ hK14 => ?_)
  have hprm12 : ∀ (bM_ bN_ ix_ : Nat) (v : Value) (G G' : GH), (∀ k o, G k = some o → G' k = some o) → (fun (bM_ bN_ ix_ : Nat) (v : Value) (G : GH) => match ix_ with | 0 => v = .string q | 1 => v = .agg (itW 1 q (.slice none 0 0)).toArray | 2 => v = .agg (itW 1 q (.slice (some ⟨b67, 0, none⟩) 1 1)).toArray | 3 => v = .agg (itW 2 ⟨#[]⟩ pv).toArray | 4 => v = .slice (some ⟨bM_, 0, none⟩) 3 3 | 5 => ∃ s1 s2 s3 s4, v = .agg #[sl3 s1, sl3 s2, sl3 s3, sl3 s4] ∧ RepV G (.sl 6 (styles17.map StyleD.dat)) (sl3 s1) | 6 => ∃ s1 s2 s3 s4, v = .agg #[.slice (some ⟨bM_, 0, none⟩) 3 3, .slice none 0 0, vi 0, vi 0, .slice none 0 0, .slice none 0 0, .slice none 0 0, sl3 s1, sl3 s2, sl3 s3, sl3 s4] ∧ RepV G (.sl 6 (styles17.map StyleD.dat)) (sl3 s1) | 7 => v = .pointer (some ⟨bN_, 0, none⟩) | _ => True) bM_ bN_ ix_ v G → (fun (bM_ bN_ ix_ : Nat) (v : Value) (G : GH) => match ix_ with | 0 => v = .string q | 1 => v = .agg (itW 1 q (.slice none 0 0)).toArray | 2 => v = .agg (itW 1 q (.slice (some ⟨b67, 0, none⟩) 1 1)).toArray | 3 => v = .agg (itW 2 ⟨#[]⟩ pv).toArray | 4 => v = .slice (some ⟨bM_, 0, none⟩) 3 3 | 5 => ∃ s1 s2 s3 s4, v = .agg #[sl3 s1, sl3 s2, sl3 s3, sl3 s4] ∧ RepV G (.sl 6 (styles17.map StyleD.dat)) (sl3 s1) | 6 => ∃ s1 s2 s3 s4, v = .agg #[.slice (some ⟨bM_, 0, none⟩) 3 3, .slice none 0 0, vi 0, vi 0, .slice none 0 0, .slice none 0 0, .slice none 0 0, sl3 s1, sl3 s2, sl3 s3, sl3 s4] ∧ RepV G (.sl 6 (styles17.map StyleD.dat)) (sl3 s1) | 7 => v = .pointer (some ⟨bN_, 0, none⟩) | _ => True) bM_ bN_ ix_ v G' := by
    intro bM_ bN_ ix_ v G G' hm h
    match ix_, h with
    | 0, h => exact h
    | 1, h => exact h
    | 2, h => exact h
    | 3, h => exact h
    | 4, h => exact h
    | 5, h => exact let ⟨a, b, c, d, h1, h2⟩ := h; ⟨a, b, c, d, h1, h2.mono hm⟩
    | 6, h => exact let ⟨a, b, c, d, h1, h2⟩ := h; ⟨a, b, c, d, h1, h2.mono hm⟩
    | 7, h => exact h
    | 8, h => exact trivial
    | _ + 9, h => exact trivial
  refine c_drawM2 (hmx) [[], [0], [], [], [0, 1, 2, 3], [0, 1], [0, 1, 2, 3, 4, 5], [], [0, 1, 2, 3, 4, 5, 6, 7]] [8] (by kernel_rfl) (by kernel_rfl) 4 7 (by decide) (by decide) (by decide) (.cells (cs14f q (.slice (some ⟨b67, 0, none⟩) 1 1) pv).flatten.toArray 35 (0, 0)) (.cells #[.slice none 0 0, .slice none 0 0, vi 0, vi 0, .slice none 0 0, .slice none 0 0, .slice none 0 0, .slice none 0 0, .slice none 0 0, .slice none 0 0, .slice none 0 0] 50 (0, 0)) (fun (bM_ bN_ ix_ : Nat) (v : Value) (G : GH) => match ix_ with | 0 => v = .string q | 1 => v = .agg (itW 1 q (.slice none 0 0)).toArray | 2 => v = .agg (itW 1 q (.slice (some ⟨b67, 0, none⟩) 1 1)).toArray | 3 => v = .agg (itW 2 ⟨#[]⟩ pv).toArray | 4 => v = .slice (some ⟨bM_, 0, none⟩) 3 3 | 5 => ∃ s1 s2 s3 s4, v = .agg #[sl3 s1, sl3 s2, sl3 s3, sl3 s4] ∧ RepV G (.sl 6 (styles17.map StyleD.dat)) (sl3 s1) | 6 => ∃ s1 s2 s3 s4, v = .agg #[.slice (some ⟨bM_, 0, none⟩) 3 3, .slice none 0 0, vi 0, vi 0, .slice none 0 0, .slice none 0 0, .slice none 0 0, sl3 s1, sl3 s2, sl3 s3, sl3 s4] ∧ RepV G (.sl 6 (styles17.map StyleD.dat)) (sl3 s1) | 7 => v = .pointer (some ⟨bN_, 0, none⟩) | _ => True) (fun b b' c i v G hi hc h => by match i, hi, hc, h with | 0, _, _, h => exact h | 1, _, _, h => exact h | 2, _, _, h => exact h | 3, _, _, h => exact h | 4, hi, _, _ => exact absurd hi (by decide) | 5, _, _, h => exact h | 6, _, hc, _ => exact absurd hc (by decide) | 7, _, _, h => exact h | 8, _, hc, _ => exact absurd hc (by decide) | _ + 9, _, _, _ => exact trivial) (fun b c c' i v G hi hc h => by match i, hi, hc, h with | 0, _, _, h => exact h | 1, _, _, h => exact h | 2, _, _, h => exact h | 3, _, _, h => exact h | 4, _, _, h => exact h | 5, _, _, h => exact h | 6, _, _, h => exact h | 7, hi, _, _ => exact absurd hi (by decide) | 8, _, hc, _ => exact absurd hc (by decide) | _ + 9, _, _, _ => exact trivial) H ?_ ?_ ?_ ?_ (by kernel_rfl) (by kernel_rfl)
  · clear H; refine (allI_cons ?_ (allI_cons ?_ (allI_cons ?_ (allI_cons ?_ (allI_cons ?_ (allI_cons ?_ (allI_cons ?_ (allI_cons ?_ (allI_cons ?_ allI_nil)))))))))
    · intro bM_ bN_ Lx_ Sd_ a w G1 hLx_ _ _ _ hSi hc hG HT hv; have H := HT; clear hSi; have Hb := H.full; have H := Hb; clear hc; refine s_move H wn rfl rfl ?_; clear H; intro a H; refine wl_nil ⟨rfl, ?_⟩; exact draw_val (by kernel_rfl) (hprm12 bM_ bN_) rfl rfl HT Hb hG hv (fun _ _ h => h) (rfl) H
    · intro bM_ bN_ Lx_ Sd_ a w G1 hLx_ _ _ _ hSi hc hG HT hv; have H := HT; clear hSi; obtain ⟨u77, hu77, hp77⟩ := hv 0 77 (hc 0 (by decide)) rfl; obtain rfl : u77 = .string q := hp77; have H := H.addS hu77; have Hb := H.full; have H := Hb; clear hc; refine s_call en9k14 H wn rfl (text14_spec _ _ H.hp.ro _) rfl ?_; clear H; rintro v78 G78 a w ⟨rfl, -⟩ hGm78 H; refine wl_nil ⟨rfl, ?_⟩; exact draw_val (by kernel_rfl) (hprm12 bM_ bN_) rfl rfl HT Hb hG hv hGm78 (rfl) H
    · intro bM_ bN_ Lx_ Sd_ a w G1 hLx_ _ _ _ hSi hc hG HT hv; have H := HT; clear hSi; have Hb := H.full; have H := Hb; clear hc; refine s_loada ty35run (cs := itW 1 q (.slice (some ⟨b67, 0, none⟩) 1 1)) H wn rfl rfl (fun j u hj => H.hp.mcell (c := (itW 1 q (.slice (some ⟨b67, 0, none⟩) 1 1)).toArray) (hLx_ _ List.mem_cons_self) (by rw [Nat.zero_add]; simpa using hj)) rfl ?_; clear H; intro a H; refine wl_nil ⟨rfl, ?_⟩; exact draw_val (by kernel_rfl) (hprm12 bM_ bN_) rfl rfl HT Hb hG hv (fun _ _ h => h) (rfl) H
    · intro bM_ bN_ Lx_ Sd_ a w G1 hLx_ _ _ _ hSi hc hG HT hv; have H := HT; clear hSi; have Hb := H.full; have H := Hb; clear hc; refine s_loada ty35run (cs := itW 2 ⟨#[]⟩ pv) H wn rfl rfl (fun j u hj => H.hp.mcell (c := (itW 2 ⟨#[]⟩ pv).toArray) (hLx_ _ (List.mem_cons_of_mem _ List.mem_cons_self)) (by rw [Nat.zero_add]; simpa using hj)) rfl ?_; clear H; intro a H; refine wl_nil ⟨rfl, ?_⟩; exact draw_val (by kernel_rfl) (hprm12 bM_ bN_) rfl rfl HT Hb hG hv (fun _ _ h => h) (rfl) H
    · intro _ _ _ _ _ _ _ _ _ hB; exact absurd hB (by decide)
    · intro bM_ bN_ Lx_ Sd_ a w G1 hLx_ _ _ _ hSi hc hG HT hv; have H := HT; clear hSi; have Hb := H.full; have H := Hb; clear hc; refine s_call en11psy H wn rfl (settings17_spec _ _ H.hp.ro) rfl ?_; clear H; rintro v82 G82 a w hp82 hGm82 H; refine wl_nil ⟨rfl, ?_⟩; exact draw_val (by kernel_rfl) (hprm12 bM_ bN_) rfl rfl HT Hb hG hv hGm82 (hp82) H
    · intro bM_ bN_ Lx_ Sd_ a w G1 hLx_ _ _ _ hSi hc hG HT hv; have H := HT; clear hSi; obtain ⟨u81, hu81, hp81⟩ := hv 4 81 (hc 4 (by decide)) rfl; obtain rfl : u81 = .slice (some ⟨bM_, 0, none⟩) 3 3 := hp81; have H := H.addS hu81; obtain ⟨u82, hu82, hp82⟩ := hv 5 82 (hc 5 (by decide)) rfl; (try dsimp only at hp82); obtain ⟨s1, s2, s3, s4, rfl, hs17⟩ := hp82; have H := H.addS hu82; have Hb := H.full; have H := Hb; clear hc; refine s_build sr50k14b [_, _, _, _, _, _, _, _, _, _, _] H wn rfl rfl rfl rfl ?_; clear H; intro a H; refine wl_nil ⟨rfl, ?_⟩; exact draw_val (by kernel_rfl) (hprm12 bM_ bN_) rfl rfl HT Hb hG hv (fun _ _ h => h) (⟨_, _, _, _, rfl, hs17⟩) H
    · intro _ _ _ _ _ _ _ _ _ _ hB; exact absurd hB (by decide)
    intro _ _ _ _ _ _ _ _ hB; exact absurd hB (by decide)
  · clear H; intro o_ bN_ Lx_ Sd_ a w G1 hLx_ ho_ _ hc hG HT hv; obtain rfl : _ = o_ := Option.some.inj ho_; clear ho_; have H := HT; obtain ⟨u78, hu78, hp78⟩ := hv 0 1 78 (by decide) (hc 1 (by decide)) rfl; obtain rfl : u78 = .agg (itW 1 q (.slice none 0 0)).toArray := hp78; have H := H.addS hu78; obtain ⟨u79, hu79, hp79⟩ := hv 0 2 79 (by decide) (hc 2 (by decide)) rfl; obtain rfl : u79 = .agg (itW 1 q (.slice (some ⟨b67, 0, none⟩) 1 1)).toArray := hp79; have H := H.addS hu79; obtain ⟨u80, hu80, hp80⟩ := hv 0 3 80 (by decide) (hc 3 (by decide)) rfl; obtain rfl : u80 = .agg (itW 2 ⟨#[]⟩ pv).toArray := hp80; have H := H.addS hu80; have Hb := H.full; have H := Hb; clear hc; refine s_buildAll un32run ty35run (cs14f q (.slice (some ⟨b67, 0, none⟩) 1 1) pv) H wn rfl rfl rfl rfl rfl rfl rfl ?_; clear H; intro b81 a w hb81 H; refine wl_nil ⟨rfl, b81, ?_⟩; exact draw_mid (by kernel_rfl) rfl HT Hb hG (fun j e h1 h2 h3 => hv _ j e h1 h2 h3) (rfl) H
  · clear H; intro o_ bM_ Lx_ Sd_ a w G1 hLx_ ho_ _ hc hG HT hv; obtain rfl : _ = o_ := Option.some.inj ho_; clear ho_; have H := HT; have Hb := H.full; have H := Hb; clear hc; refine s_alloc ty50dq H wn rfl ?_; clear H; intro b14 a w hb14 H; refine wl_nil ⟨rfl, b14, ?_⟩; exact draw_mid (by kernel_rfl) rfl HT Hb hG (fun j e h1 h2 h3 => hv _ j e h1 h2 h3) (rfl) H
  clear H; intro b81 b14 a w G hGm12 H hv; obtain ⟨u14, hu14, hp14⟩ := hv 7 14 (by decide) rfl; obtain rfl : u14 = .pointer (some ⟨b14, 0, none⟩) := hp14; have H := H.addS hu14; obtain ⟨u83, hu83, hp83⟩ := hv 6 83 (by decide) rfl; (try dsimp only at hp83); obtain ⟨s1, s2, s3, s4, rfl, hs17⟩ := hp83; have H := H.addS hu83; clear hv; refine s_store ty50dq 1 (vs := [_, _, _, _, _, _, _, _, _, _, _]) _ H wn rfl rfl rfl rfl rfl rfl rfl rfl ?_; clear H; intro w H; dsimp only [List.set, setRow] at H; refine wl_nil ⟨rfl, ?_⟩; refine hK14 _ _ ?_; clear hK14; refine c_seq (fun _ hK15 => ?_); obtain ⟨G81, hm81, hb81', H⟩ := H.giveBox; have hfl : RepV G81 (.sl 11 ((fl14 q [⟨5, 2 + sz⟩] (mk17 id)).map ItemD.dat)) (.slice (some ⟨b81, 0, none⟩) 3 3) := RepV.of_row (n := 3) (cap := 3) hb81' rfl (Nat.le_refl _) (show 3 ≤ maxLen by decide) (List.take_of_length_le (Nat.le_refl _)) (cs14f_rep (hz5.mono fun b o h => hm81 b o (hGm12 b o h)) (hmk.mono fun b o h => hm81 b o (hGm12 b o h))); replace hs17 := hs17.mono hm81; replace hmk := (hmk.mono hGm12).mono hm81; have hzf := zfl14 hq40 (.inr ⟨(⟨5, 2 + sz⟩ : PropD), rfl⟩) (mk17_one id)
  have hpl : (itP2 (mk17 id)).head.props.length ≤ 16777216 := by rcases mk17_one id with h | ⟨x, h⟩ <;> simp [itP2, hdP, ItemD.head, h]
  have at0 := at14 (p := mk17 id) (q := [(⟨5, 2 + sz⟩ : PropD)]) hn he h0 h40 (by simp) 0 0 (.inl ⟨rfl, rfl⟩); have at1 := at14 (p := mk17 id) (q := [(⟨5, 2 + sz⟩ : PropD)]) hn he h0 h40 (by simp) n 1 (.inr (.inl ⟨rfl, rfl⟩)); have at2 := at14 (p := mk17 id) (q := [(⟨5, 2 + sz⟩ : PropD)]) hn he h0 h40 (by simp) (2 * n) 2 (.inr (.inr ⟨rfl, rfl⟩)); obtain ⟨P, hP⟩ : ∃ P, P = textS styles17 (mk17 id) [] := ⟨_, rfl⟩; refine c_region ?_; refine s_loada ty50dq (cs := [_, _, _, _, _, _, _, _, _, _, _]) H wn rfl rfl (H.hp.ocells 0 rfl rfl) rfl ?_; clear H; intro a H; refine s_build sr54plc [_, _] H wn rfl rfl rfl rfl ?_; clear H; intro a H; refine s_call en12psy H wn rfl (char_spec _ _ H.hp.ro (dv14 b81 s1 s2 s3 s4) (fl14 q [⟨5, 2 + sz⟩] (mk17 id)) styles17 0 (bl3 n) (itP2 (mk17 id)) 0 0 hfl hzf at0 hs17 n17 p17 hpl (by simp [fl14, itT, hdP, ItemD.head])) rfl ?_; clear H; rintro v87 G87 a w ⟨x87, rfl, hx87⟩ hm87 H; rw [show (fl14 q [⟨5, 2 + sz⟩] (mk17 id))[0]'at0.lt = itT q [] from rfl, chrT, show (itP2 (mk17 id)).head.props = mk17 id from rfl] at hx87 H; rw [txE0 id hid] at H; rw [← hP] at hx87; obtain ⟨A87, c87, rfl, -, -, -⟩ := hx87.slice; replace hfl := hfl.mono hm87; replace hs17 := hs17.mono hm87; replace hmk := hmk.mono hm87; refine s_move H wn rfl rfl ?_; clear H; intro a H; (iterate 2 refine s_extract H wn rfl rfl rfl ?_; clear H; intro a H); (iterate 2 refine s_assign H wn rfl rfl ?_; clear H; intro a H); refine wl_nil ?_; refine hK15 _ _ ?_; clear hK15; refine c_seqR (fun _ hK16 => ?_); refine s_loada ty50dq (cs := [_, _, _, _, _, _, _, _, _, _, _]) H wn rfl rfl (H.hp.ocells 0 rfl rfl) rfl ?_; clear H; intro a H; refine s_move H wn rfl rfl ?_; clear H; intro a H; refine s_build sr54plc [_, _] H wn rfl rfl rfl rfl ?_; clear H; intro a H; refine s_call en12psy H wn rfl (char_spec _ _ H.hp.ro (dv14 b81 s1 s2 s3 s4) (fl14 q [⟨5, 2 + sz⟩] (mk17 id)) styles17 n (bl3 n) (itP2 (mk17 id)) 1 0 hfl hzf at1 hs17 n17 p17 hpl (by simp [fl14, itT, hdP, ItemD.head])) rfl ?_; clear H; rintro v94 G94 a w ⟨x94, rfl, hx94⟩ hm94 H; rw [show (fl14 q [⟨5, 2 + sz⟩] (mk17 id))[1]'at1.lt = itT q [⟨5, 2 + sz⟩] from rfl, chrT, show (itP2 (mk17 id)).head.props = mk17 id from rfl] at hx94 H; rw [txE5 id (2 + sz) hid (by omega)] at H; have hmem := mem17 id (2 + sz) hid (by omega); obtain ⟨B, hB⟩ : ∃ B, B = textS styles17 (mk17 id) [⟨5, 2 + sz⟩] := ⟨_, rfl⟩; rw [← hB] at hx94 hmem; obtain ⟨A94, c94, rfl, hc94, hd94, -⟩ := hx94.slice; rw [List.length_map] at hc94 H hx94; replace hfl := hfl.mono hm94; replace hs17 := hs17.mono hm94; replace hmk := hmk.mono hm94; replace hx87 := hx87.mono hm94; refine s_move H wn rfl rfl ?_; clear H; intro a H; (iterate 2 refine s_extract H wn rfl rfl rfl ?_; clear H; intro a H); (iterate 2 refine s_assign H wn rfl rfl ?_; clear H; intro a H); refine hK16 _ _ ?_; clear hK16; refine c_seqR (fun _ hK17 => ?_); refine s_loada ty50dq (cs := [_, _, _, _, _, _, _, _, _, _, _]) H wn rfl rfl (H.hp.ocells 0 rfl rfl) rfl ?_; clear H; intro a H; refine s_move H wn rfl rfl ?_; clear H; intro a H; refine s_mul _ H wn rfl rfl rfl (by omega) (by omega) rfl ?_; clear H; intro a H; refine s_build sr54plc [_, _] H wn rfl rfl rfl rfl ?_; clear H; intro a H; refine s_call en12psy H wn rfl (char_spec _ _ H.hp.ro (dv14 b81 s1 s2 s3 s4) (fl14 q [⟨5, 2 + sz⟩] (mk17 id)) styles17 (2 * n) (bl3 n) (itP2 (mk17 id)) 2 0 hfl hzf at2 hs17 n17 p17 hpl (by simp [fl14, itP2, hdP, ItemD.head]; exact hpl)) rfl ?_; clear H; rintro v102 G102 a w ⟨x102, rfl, hx102⟩ hm102 H; rw [show (fl14 q [⟨5, 2 + sz⟩] (mk17 id))[2]'at2.lt = itP2 (mk17 id) from rfl, chrM, show (itP2 (mk17 id)).head.props = mk17 id from rfl] at hx102 H; rw [txE0 id hid] at H; rw [← hP] at hx102; obtain ⟨A102, c102, rfl, -, -, -⟩ := hx102.slice; replace hmk := hmk.mono hm102; replace hx87 := hx87.mono hm102; replace hx94 := hx94.mono hm102; refine s_move H wn rfl rfl ?_; clear H; intro a H; (iterate 2 refine s_extract H wn rfl rfl rfl ?_; clear H; intro a H); (iterate 2 refine s_assign H wn rfl rfl ?_; clear H; intro a H); refine hK17 _ _ ?_; clear hK17; refine c_seq (fun _ hK18 => ?_)
  have hprm16 : ∀ (ix_ : Nat) (v : Value) (G G' : GH), (∀ k o, G k = some o → G' k = some o) → (fun (ix_ : Nat) (v : Value) (G : GH) => match ix_ with | 0 => ∃ s1 s2 s3 s4, v = .agg #[sl3 s1, sl3 s2, sl3 s3, sl3 s4] ∧ RepV G (.sl 6 (styles17.map StyleD.dat)) (sl3 s1) | 1 => RepV G (.sl 6 (styles17.map StyleD.dat)) v | 2 => v = .pointer (some ⟨b10, 4, none⟩) | 3 => v = .pointer (some ⟨b10, 4, none⟩) | 4 => RepV G (.sl 2 ((mk17 id).map PropD.dat)) v | 5 => ∃ x, v = .tuple #[x, vi 0] ∧ RepV G (.sl 2 ((P).map PropD.dat)) x | 6 => ∃ x, v = .tuple #[x, vi 0] ∧ RepV G (.sl 2 ((P).map PropD.dat)) x | 7 => RepV G (.sl 2 ((P).map PropD.dat)) v | 8 => v = vi 0 | 9 => RepV G (.sl 2 ((P).map PropD.dat)) v | 10 => v = vi 0 | _ => True) ix_ v G → (fun (ix_ : Nat) (v : Value) (G : GH) => match ix_ with | 0 => ∃ s1 s2 s3 s4, v = .agg #[sl3 s1, sl3 s2, sl3 s3, sl3 s4] ∧ RepV G (.sl 6 (styles17.map StyleD.dat)) (sl3 s1) | 1 => RepV G (.sl 6 (styles17.map StyleD.dat)) v | 2 => v = .pointer (some ⟨b10, 4, none⟩) | 3 => v = .pointer (some ⟨b10, 4, none⟩) | 4 => RepV G (.sl 2 ((mk17 id).map PropD.dat)) v | 5 => ∃ x, v = .tuple #[x, vi 0] ∧ RepV G (.sl 2 ((P).map PropD.dat)) x | 6 => ∃ x, v = .tuple #[x, vi 0] ∧ RepV G (.sl 2 ((P).map PropD.dat)) x | 7 => RepV G (.sl 2 ((P).map PropD.dat)) v | 8 => v = vi 0 | 9 => RepV G (.sl 2 ((P).map PropD.dat)) v | 10 => v = vi 0 | _ => True) ix_ v G' := by
    intro ix_ v G G' hm h
    match ix_, h with
    | 0, h => exact let ⟨a, b, c, d, h1, h2⟩ := h; ⟨a, b, c, d, h1, h2.mono hm⟩
    | 1, h => exact RepV.mono hm h
    | 2, h => exact h
    | 3, h => exact h
    | 4, h => exact RepV.mono hm h
    | 5, h => exact let ⟨x, h1, h2⟩ := h; ⟨x, h1, h2.mono hm⟩
    | 6, h => exact let ⟨x, h1, h2⟩ := h; ⟨x, h1, h2.mono hm⟩
    | 7, h => exact RepV.mono hm h
    | 8, h => exact h
    | 9, h => exact RepV.mono hm h
    | 10, h => exact h
    | _ + 11, h => exact trivial
  refine c_drawI (hmx) [[], [0], [], [2], [2, 3], [0, 1, 2, 3, 4], [0, 1, 2, 3, 4, 5], [0, 1, 2, 3, 4, 5, 6], [0, 1, 2, 3, 4, 5, 6], [0, 1, 2, 3, 4, 5, 6, 7], [0, 1, 2, 3, 4, 5, 6, 7, 8, 9]] [] (by kernel_rfl) (by kernel_rfl) (fun (ix_ : Nat) (v : Value) (G : GH) => match ix_ with | 0 => ∃ s1 s2 s3 s4, v = .agg #[sl3 s1, sl3 s2, sl3 s3, sl3 s4] ∧ RepV G (.sl 6 (styles17.map StyleD.dat)) (sl3 s1) | 1 => RepV G (.sl 6 (styles17.map StyleD.dat)) v | 2 => v = .pointer (some ⟨b10, 4, none⟩) | 3 => v = .pointer (some ⟨b10, 4, none⟩) | 4 => RepV G (.sl 2 ((mk17 id).map PropD.dat)) v | 5 => ∃ x, v = .tuple #[x, vi 0] ∧ RepV G (.sl 2 ((P).map PropD.dat)) x | 6 => ∃ x, v = .tuple #[x, vi 0] ∧ RepV G (.sl 2 ((P).map PropD.dat)) x | 7 => RepV G (.sl 2 ((P).map PropD.dat)) v | 8 => v = vi 0 | 9 => RepV G (.sl 2 ((P).map PropD.dat)) v | 10 => v = vi 0 | _ => True) hprm16 H ?_ ?_
  · clear H; refine (allI_cons ?_ (allI_cons ?_ (allI_cons ?_ (allI_cons ?_ (allI_cons ?_ (allI_cons ?_ (allI_cons ?_ (allI_cons ?_ (allI_cons ?_ (allI_cons ?_ (allI_cons ?_ allI_nil)))))))))))
    · refine opI [] rfl trivial (by kernel_rfl) hprm16 rfl rfl ?_; intro Sd_ a w G1 hG HT H fin; refine s_call en11psy H wn rfl (settings17_spec _ _ H.hp.ro) rfl ?_; clear H; rintro v106 G106 a w hp106 hGm106 H; exact fin H hGm106 (hp106)
    · intro Sd_ a w G1 _ hSi hc hG HT hv; have H := HT; clear hSi; obtain ⟨u106, hu106, hp106⟩ := hv 0 106 (hc 0 (by decide)) rfl; (try dsimp only at hp106); obtain ⟨r1, r2, r3, r4, rfl, hr17⟩ := hp106; have H := H.addS hu106; have Hb := H.full; have H := Hb; clear hc; refine s_fieldv fv46_0psy ty41chn H wn rfl rfl rfl ?_; clear H; intro a H; refine wl_nil ⟨rfl, ?_⟩; exact draw_val (by kernel_rfl) hprm16 rfl rfl HT Hb hG hv (fun _ _ h => h) (hr17) H
    · refine opI [] rfl trivial (by kernel_rfl) hprm16 rfl rfl ?_; intro Sd_ a w G1 hG HT H fin; refine s_field fd35_4run H wn rfl rfl ?_; clear H; intro a H; exact fin H (fun _ _ h => h) (rfl)
    · refine opI [(2, 108, _)] rfl ⟨fun _ _ h => h, trivial⟩ (by kernel_rfl) hprm16 rfl rfl ?_; intro Sd_ a w G1 hG HT H fin; refine s_field fd31_0run H wn rfl rfl ?_; clear H; intro a H; exact fin H (fun _ _ h => h) (rfl)
    · refine opI [(3, 109, _)] rfl ⟨fun _ _ h => h, trivial⟩ (by kernel_rfl) hprm16 rfl rfl ?_; intro Sd_ a w G1 hG HT H fin; refine s_load ty25run H wn rfl (H.hp.ocell 2 rfl rfl) rfl ?_; clear H; intro a H; exact fin H (fun _ _ h => h) (hmk.mono hG)
    · intro Sd_ a w G1 _ hSi hc hG HT hv; have H := HT; clear hSi; obtain ⟨u107, hu107, hp107⟩ := hv 1 107 (hc 1 (by decide)) rfl; (try dsimp only at hp107); have H := H.addS hu107; obtain ⟨u110, hu110, hp110⟩ := hv 4 110 (hc 4 (by decide)) rfl; (try dsimp only at hp110); have H := H.addS hu110; have Hb := H.full; have H := Hb; clear hc
      refine s_call en13chr H wn rfl (text_spec _ _ H.hp.ro styles17 (mk17 id) [] _ _ _ hp107 n17 p17 hp110 (RepV.nil_ rfl (by decide)) (Nat.le_trans (by rcases mk17_one id with h | ⟨x, h⟩ <;> simp [h]) (by decide : 1 ≤ 16777216)) (Nat.zero_le _)) rfl ?_; clear H
      rintro v111 G111 a w ⟨x111, rfl, hx111⟩ hGm111 H; rw [txE0 id hid] at H; rw [← hP] at hx111; refine wl_nil ⟨rfl, ?_⟩; exact draw_val (by kernel_rfl) hprm16 rfl rfl HT Hb hG hv hGm111 (⟨_, rfl, hx111⟩) H
    · intro Sd_ a w G1 _ hSi hc hG HT hv; have H := HT; clear hSi; obtain ⟨u111, hu111, hp111⟩ := hv 5 111 (hc 5 (by decide)) rfl; (try dsimp only at hp111); obtain ⟨x111, rfl, hx111⟩ := hp111; have H := H.addS hu111; have Hb := H.full; have H := Hb; clear hc; refine s_move H wn rfl rfl ?_; clear H; intro a H; refine wl_nil ⟨rfl, ?_⟩; exact draw_val (by kernel_rfl) hprm16 rfl rfl HT Hb hG hv (fun _ _ h => h) (⟨_, rfl, hx111⟩) H
    · intro Sd_ a w G1 _ hSi hc hG HT hv; have H := HT; clear hSi; obtain ⟨u105, hu105, hp105⟩ := hv 6 105 (hc 6 (by decide)) rfl; (try dsimp only at hp105); obtain ⟨x105, rfl, hx105⟩ := hp105; have H := H.addS hu105; have Hb := H.full; have H := Hb; clear hc; refine s_extract H wn rfl rfl rfl ?_; clear H; intro a H; refine wl_nil ⟨rfl, ?_⟩; exact draw_val (by kernel_rfl) hprm16 rfl rfl HT Hb hG hv (fun _ _ h => h) (hx105) H
    · intro Sd_ a w G1 _ hSi hc hG HT hv; have H := HT; clear hSi; obtain ⟨u105, hu105, hp105⟩ := hv 6 105 (hc 6 (by decide)) rfl; (try dsimp only at hp105); obtain ⟨x105, rfl, hx105⟩ := hp105; have H := H.addS hu105; have Hb := H.full; have H := Hb; clear hc; refine s_extract H wn rfl rfl rfl ?_; clear H; intro a H; refine wl_nil ⟨rfl, ?_⟩; exact draw_val (by kernel_rfl) hprm16 rfl rfl HT Hb hG hv (fun _ _ h => h) (rfl) H
    · intro Sd_ a w G1 _ hSi hc hG HT hv; have H := HT; clear hSi; obtain ⟨u112, hu112, hp112⟩ := hv 7 112 (hc 7 (by decide)) rfl; (try dsimp only at hp112); have H := H.addS hu112; have Hb := H.full; have H := Hb; clear hc; refine s_assign H wn rfl rfl ?_; clear H; intro a H; refine wl_nil ⟨rfl, ?_⟩; exact draw_val (by kernel_rfl) hprm16 rfl rfl HT Hb hG hv (fun _ _ h => h) (hp112) H
    refine opI [(8, 113, _)] rfl ⟨fun _ _ h => h, trivial⟩ (by kernel_rfl) hprm16 rfl rfl ?_; intro Sd_ a w G1 hG HT H fin; refine s_assign H wn rfl rfl ?_; clear H; intro a H; exact fin H (fun _ _ h => h) (rfl)
  clear H; intro a w G hGm16 H hv; obtain ⟨u21, hu21, hp21⟩ := hv 9 21 (by decide) rfl; (try dsimp only at hp21); have H := H.addS hu21; clear hv; refine wl_nil ⟨rfl, ?_⟩; refine hK18 _ _ ?_; clear hK18; refine c_seqR (fun _ hK19 => ?_); refine s_assign H wn rfl rfl ?_; clear H; intro a H; refine hK19 _ _ ?_; clear hK19; refine c_seq (fun _ hK20 => ?_); refine c_seqR (fun _ hK21 => ?_); refine s_assign H wn rfl rfl ?_; clear H; intro a H; refine hK21 _ _ ?_; clear hK21; refine c_block ?_; skip; refine c_loopS (ι := Nat × Bool) (Tc := [(1, _), (15, _), (16, _), (17, _), (18, _), (19, _), (20, _), (21, _)]) (Lc := [(_, _), (_, _), (_, _)]) (fun (gh : Nat × Bool) => [(23, .bool gh.2), (24, vi gh.1)]) (fun (gh : Nat × Bool) => []) (fun (gh : Nat × Bool) => G) (fun (gh : Nat × Bool) => gh.1 ≤ B.length ∧ gh.2 = decide ((⟨5, 2 + sz⟩ : PropD) ∈ B.take gh.1)) (fun (gh : Nat × Bool) => B.length - gh.1) ((0, false)) (by exact (H).sub ⟨rfl, rfl, rfl, rfl, rfl, rfl, rfl, rfl, rfl, rfl, trivial⟩) ?_ ?_
  · exact ⟨Nat.zero_le _, rfl⟩
  clear H; intro gh a w hI H; obtain ⟨k, hb⟩ := gh; dsimp only at hI H; obtain ⟨hk, hhb⟩ := hI; dsimp only [List.cons_append, List.nil_append, List.append_nil] at H; refine c_seq (fun _ hK22 => ?_); refine c_seqR (fun _ hK23 => ?_); (iterate 2 refine s_move H wn rfl rfl ?_; clear H; intro a H); refine s_len un25run H wn rfl rfl ?_; clear H; intro a H; refine s_cmp H wn rfl rfl rfl rfl ?_; clear H; intro a H; refine hK23 _ _ ?_; clear hK23; refine c_cond H rfl ?_ ?_
  · intro h117
    try have p117 := of_decide_eq_true h117
    have hk2 : k < B.length := by omega
    obtain ⟨b1, o1, cs1, rfl, hcl1, hrow1, hr1⟩ := (hx94.mono hGm16).at_ k B[k].dat (by simp [hk2]); obtain rfl := prop_of hr1; refine c_skip ?_; refine hK22 _ _ ?_; clear hK22; refine c_seq (fun _ hK24 => ?_); refine c_block ?_; refine c_region ?_; (iterate 2 refine s_move H wn rfl rfl ?_; clear H; intro a H); refine s_split H 121 rfl ?_ ?_
    · intro h121
      try have p121 := of_decide_eq_true h121
      (iterate 9 refine s_skip H rfl rfl h121 rfl ?_; clear H; intro a H); refine s_pick_t H wn rfl h121 rfl rfl ?_; clear H; intro a H; refine s_assign H wn rfl rfl ?_; clear H; intro a H; refine wl_nil ?_; refine hK24 _ _ ?_; clear hK24; refine c_region ?_; refine s_move H wn rfl rfl ?_; clear H; intro a H; refine s_add _ H wn rfl rfl rfl (by omega) (by omega) rfl ?_; clear H; intro a H; refine s_assign H wn rfl rfl ?_; clear H; intro a H; refine wl_nil ?_; refine loop_end ((k + 1, _)) (by exact (H).sub ⟨rfl, rfl, rfl, rfl, rfl, rfl, rfl, rfl, rfl, rfl, trivial⟩) ?_ ?_
      · try dsimp only
        first
        | exact ⟨by omega, has_yes hk2 hhb h121⟩
        | exact ⟨by omega, has_no (z := ⟨5, 2 + sz⟩) hk2 hhb h121⟩
      first | omega | (dsimp only; omega)
    intro h121
    try have p121 := of_decide_eq_false h121
    (iterate 2 refine s_move H (wg H rfl rfl h121) rfl rfl ?_; clear H; intro a H); refine s_index un25run ty40run _ H (wg H rfl rfl h121) rfl rfl rfl (by first | assumption | omega) rfl ?_; clear H; intro a H; refine s_loada ty40run (cs := B[k].cells) H (wg H rfl rfl h121) rfl rfl (fun j v hj => H.hp.gcell (hrow1 j v hj)) rfl ?_; clear H; intro a H; refine s_move H (wg H rfl rfl h121) rfl rfl ?_; clear H; intro a H; refine s_conv _ un3cp un5cp H (wg H rfl rfl h121) rfl rfl rfl ?_; clear H; intro a H; rw [i64_wrap (by omega) (by omega)] at H; refine s_add _ H (wg H rfl rfl h121) rfl rfl rfl (by omega) (by omega) rfl ?_; clear H; intro a H; refine s_build sr40s17 [_, _] H (wg H rfl rfl h121) rfl rfl rfl rfl ?_; clear H; intro a H; refine s_eqagg eqi40psy H (wg H rfl rfl h121) rfl rfl rfl rfl ?_; clear H; intro a H; refine s_pick_f H wn rfl h121 rfl rfl ?_; clear H; intro a H; refine s_assign H wn rfl rfl ?_; clear H; intro a H; refine wl_nil ?_; refine hK24 _ _ ?_; clear hK24; refine c_region ?_; refine s_move H wn rfl rfl ?_; clear H; intro a H; refine s_add _ H wn rfl rfl rfl (by omega) (by omega) rfl ?_; clear H; intro a H; refine s_assign H wn rfl rfl ?_; clear H; intro a H; refine wl_nil ?_; refine loop_end ((k + 1, _)) (by exact (H).sub ⟨rfl, rfl, rfl, rfl, rfl, rfl, rfl, rfl, rfl, rfl, trivial⟩) ?_ ?_
    · try dsimp only
      first
      | exact ⟨by omega, has_yes hk2 hhb h121⟩
      | exact ⟨by omega, has_no (z := ⟨5, 2 + sz⟩) hk2 hhb h121⟩
    first | omega | (dsimp only; omega)
  intro h117
  try have p117 := of_decide_eq_false h117
  refine c_exit ?_; refine hK20 _ _ ?_; clear hK20; refine c_seq (fun _ hK25 => ?_)
  have hb1 : hb = true := by rw [hhb, List.take_of_length_le (by omega)]; exact decide_eq_true hmem
  rw [hb1] at H; refine c_region ?_; refine s_move H wn rfl rfl ?_; clear H; intro a H; refine s_cmp H wn rfl rfl rfl rfl ?_; clear H; intro a H; refine s_move H wn rfl rfl ?_; clear H; intro a H; refine s_split H 134 rfl ?_ ?_
  · intro h134
    try have p134 := of_decide_eq_true h134
    refine s_move H (wg H rfl rfl h134) rfl rfl ?_; clear H; intro a H; refine s_cmp H (wg H rfl rfl h134) rfl rfl rfl rfl ?_; clear H; intro a H; refine s_pick_t H wn rfl h134 rfl rfl ?_; clear H; intro a H; refine s_move H wn rfl rfl ?_; clear H; intro a H; refine s_split H 138 rfl ?_ ?_
    · intro h138
      try have p138 := of_decide_eq_true h138
      refine s_move H (wg H rfl rfl h138) rfl rfl ?_; clear H; intro a H; refine s_cmp H (wg H rfl rfl h138) rfl rfl rfl rfl ?_; clear H; intro a H; refine s_pick_t H wn rfl h138 rfl rfl ?_; clear H; intro a H; refine s_move H wn rfl rfl ?_; clear H; intro a H; refine s_split H 142 rfl ?_ ?_
      · intro h142
        try have p142 := of_decide_eq_true h142
        (iterate 2 refine s_move H (wg H rfl rfl h142) rfl rfl ?_; clear H; intro a H); refine s_call en14psy H (wg H rfl rfl h142) rfl (samePropsS _ _ H.hp.ro (P) (P) _ _ (hx87.mono hGm16) hp21) rfl ?_; clear H; rintro v145 G145 a w rfl hm145 H; rw [decide_eq_true (rfl : P = P)] at H; refine s_pick_t H wn rfl h142 rfl rfl ?_; clear H; intro a H; refine s_move H wn rfl rfl ?_; clear H; intro a H; refine s_split H 147 rfl ?_ ?_
        · intro h147
          try have p147 := of_decide_eq_true h147
          (iterate 2 refine s_move H (wg H rfl rfl h147) rfl rfl ?_; clear H; intro a H); refine s_call en14psy H (wg H rfl rfl h147) rfl (samePropsS _ _ H.hp.ro (P) (P) _ _ ((hx102.mono hGm16).mono hm145) (hp21.mono hm145)) rfl ?_; clear H; rintro v150 G150 a w rfl hm150 H; rw [decide_eq_true (rfl : P = P)] at H; refine s_pick_t H wn rfl h147 rfl rfl ?_; clear H; intro a H; refine s_move H wn rfl rfl ?_; clear H; intro a H; refine s_split H 152 rfl ?_ ?_
          · intro h152
            try have p152 := of_decide_eq_true h152
            refine s_move H (wg H rfl rfl h152) rfl rfl ?_; clear H; intro a H; refine s_pick_t H wn rfl h152 rfl rfl ?_; clear H; intro a H; refine s_assign H wn rfl rfl ?_; clear H; intro a H; refine wl_nil ?_; refine hK25 _ _ ?_; clear hK25; refine c_ret ?_; refine (leave1 H Tryz.results3 (.cons (rv_tmp H rfl) .nil) ?_).1; exact H.hp.ret rfl
          intro h152
          try have p152 := of_decide_eq_false h152
          exact absurd h152 (by decide)
        intro h147
        try have p147 := of_decide_eq_false h147
        exact absurd h147 (by decide)
      intro h142
      try have p142 := of_decide_eq_false h142
      exact absurd h142 (by decide)
    intro h138
    try have p138 := of_decide_eq_false h138
    exact absurd h138 (by decide)
  intro h134
  try have p134 := of_decide_eq_false h134
  exact absurd h134 (by decide)
end
end Go.Proofs.YtlnhhlighgaapaaGreat
