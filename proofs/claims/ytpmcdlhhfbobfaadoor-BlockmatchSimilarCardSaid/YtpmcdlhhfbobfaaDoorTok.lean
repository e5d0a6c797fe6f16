/-
  Package segment: tokens, Collect.
-/
import Derived.Test.YtpmcdlhhfbobfaaDoorWrd
import Derived.Test.YtpmcdlhhfbobfaaDoorRo
namespace Go.Proofs.YtpmcdlhhfbobfaaDoor
open Go.RowKit
theorem un73tok : Tryd.prog.underlying 73 = some (.slice 100) := by kernel_rfl
theorem ty100tok : Ty Tryd.prog 100 3 24 [.int .i64 0, .int .i64 0, .int .i64 0] true := ⟨by kernel_rfl, by kernel_rfl⟩
theorem ty3tok : Ty Tryd.prog 3 1 8 [.int .i64 0] false := ⟨by kernel_rfl, by kernel_rfl⟩
theorem ty73tok : Ty Tryd.prog 73 1 24 [.slice none 0 0] false := ⟨by kernel_rfl, by kernel_rfl⟩
theorem en48tok : ∀ args w, (callFunc 48 args).run Tryd.prog w = .ok (.enter 48 args) w := enters Tryd.func48 rfl (by kernel_rfl)
theorem fd100_1tok : Fld Tryd.prog 100 1 1 := ⟨by kernel_rfl⟩
theorem fd100_2tok : Fld Tryd.prog 100 2 2 := ⟨by kernel_rfl⟩
theorem sr66tok : Srt Tryd.prog 66 [(0, 1), (1, 1), (2, 1)] [.int .i64 0, .int .i64 0, .int .i64 0] := ⟨by kernel_rfl, by kernel_rfl⟩
theorem en47tok : ∀ args w, (callFunc 47 args).run Tryd.prog w = .ok (.enter 47 args) w := enters Tryd.func47 rfl (by kernel_rfl)
structure TkD where
  kind : Int
  from_ : Int
  to : Int
def TkD.dat (x : TkD) : List Dat := [li x.kind, li x.from_, li x.to]
def TkD.cells (x : TkD) : List Value := [vi x.kind, vi x.from_, vi x.to]
theorem tk_row (G : GH) (x : TkD) : RepRow G x.dat x.cells := by
  simp only [TkD.dat, TkD.cells, RepRow]
  exact ⟨_, _, rfl, by simp [RepV, Value.oneCell'], _, _, rfl, by simp [RepV, Value.oneCell'], _, _, rfl, by simp [RepV, Value.oneCell'], rfl⟩
theorem tk_of {G : GH} {x : TkD} {cs : List Value} (h : RepRow G x.dat cs) : cs = x.cells := by
  simp only [TkD.dat, RepRow, RepV] at h
  obtain ⟨v1, _, rfl, ⟨rfl, -⟩, v2, _, rfl, ⟨rfl, -⟩, v3, _, rfl, ⟨rfl, -⟩, rfl⟩ := h
  rfl
theorem tk_at {G : GH} {l : List TkD} {A : Option Addr} {n c k : Nat} (hv : RepV G (.sl 3 (l.map TkD.dat)) (.slice A n c)) (hk : k < l.length) : ∃ b o, A = some ⟨b, o, none⟩ ∧ (∀ j u, [vi l[k].kind, vi l[k].from_, vi l[k].to][j]? = some u → gcell G b (o + k * 3 + j) = some u) := by
  obtain ⟨A', c', he, _, _, hg⟩ := hv.slice
  injection he with e1 e2 e3
  subst e1; obtain ⟨b, o, cs, h1, h2, h3, h4⟩ := hg k l[k].dat (by simp [hk]); obtain rfl := tk_of h4; exact ⟨b, o, h1, h3⟩
theorem wrdF_bd {l : List ClD} : ∀ (f n : Nat) (k : Int), n ≤ l.length → n ≤ (wrdF l f n k).1 ∧ (wrdF l f n k).1 ≤ l.length
  | 0, n, k, h => ⟨Nat.le_refl _, h⟩
  | f + 1, n, k, h => by
    rw [wrdF]; split
    · split
      · have := wrdF_bd (l := l) f (n + 1) (if clsA l n = 5 then 1 else k) (by omega); omega
      exact ⟨Nat.le_refl _, h⟩
    exact ⟨Nat.le_refl _, h⟩
theorem spcF_bd {l : List ClD} : ∀ (f n : Nat), n ≤ l.length → n ≤ spcF l f n ∧ spcF l f n ≤ l.length
  | 0, n, h => ⟨Nat.le_refl _, h⟩
  | f + 1, n, h => by
    rw [spcF]; split
    · have := spcF_bd (l := l) f (n + 1) (by omega); omega
    exact ⟨Nat.le_refl _, h⟩
theorem nxt_bd {l : List ClD} (h : 0 < l.length) : 1 ≤ (nxtS l).1 ∧ (nxtS l).1 ≤ l.length := by
  unfold nxtS
  split
  · rename_i hc
    have hok : okW l 0 = true := by simp only [okW, decide_eq_true_eq]; omega
    rw [wrdS, wrdF_in (by omega) h, if_pos hok]; have := wrdF_bd (l := l) (l.length - 1) (0 + 1) (if clsA l 0 = 5 then 1 else 2) (by omega)
    omega
  split
  · rename_i hc
    rw [spcF_in (by omega) ⟨h, hc⟩]; have := spcF_bd (l := l) (l.length - 1) (0 + 1) (by omega)
    omega
  repeat' split
  all_goals (dsimp only; omega)
/-- The tokens of clusters. -/
def tkF : Nat → List ClD → List TkD
  | 0, _ => []
  | f + 1, l => if h : 0 < l.length then ⟨(nxtS l).2, (l[0]).from_, (l[(nxtS l).1 - 1]'(by have := nxt_bd h; omega)).to⟩ :: tkF f (l.drop (nxtS l).1) else []
def tkS (l : List ClD) : List TkD := tkF l.length l
theorem tkF_len : ∀ (f : Nat) (l : List ClD), (tkF f l).length ≤ f
  | 0, _ => by simp [tkF]
  | f + 1, l => by
    rw [tkF]; split
    · rw [List.length_cons]; have := tkF_len f (l.drop (nxtS l).1); omega
    simp
def tkP (x : TkD) : AP := fun args _ => args = [.agg #[vi x.kind, vi x.from_, vi x.to]]
theorem tkp_at {A : List TkD} {k : Nat} {args : List Value} {g : GH} (h : AtAP (A.map tkP) k args g) : ∃ (hk : k < A.length), args = [.agg #[vi A[k].kind, vi A[k].from_, vi A[k].to]] := by
  obtain ⟨p, hp, hargs⟩ := h; rw [List.getElem?_map] at hp; obtain ⟨q, hq, rfl⟩ := Option.map_eq_some_iff.1 hp; obtain ⟨hk, rfl⟩ := List.getElem?_eq_some_iff.1 hq; exact ⟨hk, hargs⟩
abbrev bC (b : Nat) (v : Value) : Nat × Obj := (b, .cells #[v] 73 (0, 0))
set_option maxHeartbeats 1000000 in
theorem tokens1_iter {G : GH} {bx : Nat} {l : List ClD} {v : Value} (hv : RepV G (.sl 3 (l.map ClD.dat)) v) :
    IterO Tryd.prog G [bC bx v] (.func (.func 47) #[] #[.pointer (some ⟨bx, 0, none⟩)]) ((tkS l).map tkP) := by
  intro J Jx fv G1 L w0 hfv hGi hJm hJx hJ hO hcb; refine callV_func (caps := [.pointer (some ⟨bx, 0, none⟩)]) en47tok ?_; obtain ⟨A, c, rfl, hc1, hc2, -⟩ := hv.slice; have hml : maxLen = 9223372036854775807 := rfl; rw [List.length_map] at *; refine enterL (N := 31) (T := [(0, _), (1, _)]) Tryd.func47 rfl Tryd.ntmps47 rfl rfl hO ?_; intro a H; refine c_block ?_; skip; refine c_loopS (ι := List ClD × Option Addr × Nat × Nat × Nat × OL × GH) (Tc := [(0, _), (1, _)]) (Lc := []) (fun (gh : List ClD × Option Addr × Nat × Nat × Nat × OL × GH) => []) (fun (gh : List ClD × Option Addr × Nat × Nat × Nat × OL × GH) => [bC bx (.slice gh.2.1 gh.1.length gh.2.2.1)] ++ gh.2.2.2.2.2.1) (fun (gh : List ClD × Option Addr × Nat × Nat × Nat × OL × GH) => gh.2.2.2.2.2.2) (fun (gh : List ClD × Option Addr × Nat × Nat × Nat × OL × GH) => gh.1.length ≤ gh.2.2.2.1 ∧ RepV gh.2.2.2.2.2.2 (.sl 3 (gh.1.map ClD.dat)) (.slice gh.2.1 gh.1.length gh.2.2.1) ∧ (∀ b o, G1 b = some o → gh.2.2.2.2.2.2 b = some o) ∧ Now ((tkS l).map tkP) tkP J (tkS l).length gh.2.2.2.2.1 (tkF gh.2.2.2.1 gh.1) gh.2.2.2.2.2.2 gh.2.2.2.2.2.1) (fun (gh : List ClD × Option Addr × Nat × Nat × Nat × OL × GH) => gh.1.length) ((l, A, c, l.length, 0, L, G1)) (by exact (H).sub ⟨rfl, rfl, trivial⟩) ?_ ?_
  · exact ⟨Nat.le_refl _, hv.mono hGi, fun _ _ h => h, ⟨hJ, fun i a h => by rw [Nat.zero_add, List.getElem?_map]; rw [show tkF l.length l = tkS l from rfl] at h; rw [h]; rfl, by show 0 + (tkS l).length = _; omega⟩⟩
  clear H; intro gh a w hI H; obtain ⟨r, B, c2, f, j1, Lt, g⟩ := gh; dsimp only at hI H; obtain ⟨hf, hvg, hgm, hnow⟩ := hI; dsimp only [List.cons_append, List.nil_append, List.append_nil] at H; refine c_seq (fun _ hK1 => ?_); refine c_seq (fun _ hK2 => ?_); refine c_region ?_; refine s_load ty73tok H wn rfl (H.hp.ocell 0 rfl rfl) rfl ?_; clear H; intro a H; refine s_len un73tok H wn rfl rfl ?_; clear H; intro a H; refine s_cmp H wn rfl rfl rfl rfl ?_; clear H; intro a H; refine wl_nil ?_; refine hK2 _ _ ?_; clear hK2; refine c_cond H rfl ?_ ?_
  · intro h7
    try have p7 := of_decide_eq_true h7
    have hr0 : 0 < r.length := by omega
    obtain ⟨f', rfl⟩ : ∃ f', f = f' + 1 := ⟨f - 1, by omega⟩; rw [tkF, dif_pos hr0] at hnow; have hbd := nxt_bd hr0; obtain ⟨b, o, rfl, -⟩ := clu_at hvg hr0; obtain ⟨_, _, he0, hc3, hc4, -⟩ := hvg.slice
    injection he0 with _ _ he1
    subst he1; rw [List.length_map] at hc3; refine c_skip ?_; refine hK1 _ _ ?_; clear hK1; refine c_block ?_; refine c_seq (fun _ hK3 => ?_); refine c_region ?_; refine s_load ty73tok H wn rfl (H.hp.ocell 0 rfl rfl) rfl ?_; clear H; intro a H; refine s_call en48tok H wn rfl (next_spec _ _ H.hp.ro r _ hvg hr0) rfl ?_; clear H; rintro v10 G10 a w rfl hm10 H; obtain ⟨nn, hnn⟩ : ∃ nn, nn = (nxtS r).1 := ⟨_, rfl⟩; have hvg := hvg.mono hm10; rw [← hnn] at H hbd
    have hl1 : nn - 1 < r.length := by omega
    have hnow2 : Now ((tkS l).map tkP) tkP J (tkS l).length j1 (⟨(nxtS r).2, (r[0]).from_, (r[nn - 1]).to⟩ :: tkF f' (r.drop nn)) G10 Lt := by
      subst hnn; exact ⟨hJm _ _ _ _ hm10 hnow.now, hnow.rem, hnow.len⟩
    refine s_move H wn rfl rfl ?_; clear H; intro a H; (iterate 2 refine s_extract H wn rfl rfl rfl ?_; clear H; intro a H); (iterate 2 refine s_assign H wn rfl rfl ?_; clear H; intro a H); refine wl_nil ?_; refine hK3 _ _ ?_; clear hK3; refine c_seq (fun _ hK4 => ?_); refine c_seq (fun _ hK5 => ?_)
    have hprm2 : ∀ (ix_ : Nat) (v : Value) (G G' : GH), (∀ k o, G k = some o → G' k = some o) → (fun (ix_ : Nat) (v : Value) (G : GH) => match ix_ with | 0 => v = fv | 1 => v = vi (nxtS r).2 | 2 => v = .slice (some ⟨b, o, none⟩) r.length c2 | 3 => v = .pointer (some ⟨b, o + 0 * 3, none⟩) | 4 => v = .pointer (some ⟨b, o + 0 * 3 + 1, none⟩) | 5 => v = vi (r[0]).from_ | 6 => v = .slice (some ⟨b, o, none⟩) r.length c2 | 7 => v = vi nn | 8 => v = vi ((nn : Int) - 1) | 9 => v = .pointer (some ⟨b, o + (nn - 1) * 3, none⟩) | 10 => v = .pointer (some ⟨b, o + (nn - 1) * 3 + 2, none⟩) | 11 => v = vi (r[nn - 1]).to | 12 => v = .agg #[vi (nxtS r).2, vi (r[0]).from_, vi (r[nn - 1]).to] | _ => True) ix_ v G → (fun (ix_ : Nat) (v : Value) (G : GH) => match ix_ with | 0 => v = fv | 1 => v = vi (nxtS r).2 | 2 => v = .slice (some ⟨b, o, none⟩) r.length c2 | 3 => v = .pointer (some ⟨b, o + 0 * 3, none⟩) | 4 => v = .pointer (some ⟨b, o + 0 * 3 + 1, none⟩) | 5 => v = vi (r[0]).from_ | 6 => v = .slice (some ⟨b, o, none⟩) r.length c2 | 7 => v = vi nn | 8 => v = vi ((nn : Int) - 1) | 9 => v = .pointer (some ⟨b, o + (nn - 1) * 3, none⟩) | 10 => v = .pointer (some ⟨b, o + (nn - 1) * 3 + 2, none⟩) | 11 => v = vi (r[nn - 1]).to | 12 => v = .agg #[vi (nxtS r).2, vi (r[0]).from_, vi (r[nn - 1]).to] | _ => True) ix_ v G' := by
      intro ix_ v G G' hm h
      match ix_, h with
      | 0, h => exact h
      | 1, h => exact h
      | 2, h => exact h
      | 3, h => exact h
      | 4, h => exact h
      | 5, h => exact h
      | 6, h => exact h
      | 7, h => exact h
      | 8, h => exact h
      | 9, h => exact h
      | 10, h => exact h
      | 11, h => exact h
      | 12, h => exact h
      | 13, h => exact trivial
      | 14, h => exact trivial
      | _ + 15, h => exact trivial
    refine c_drawI (hmxb) [[], [], [], [2], [2, 3], [2, 3, 4], [], [], [7], [6, 7, 8], [6, 7, 8, 9], [6, 7, 8, 9, 10], [1, 2, 3, 4, 5, 6, 7, 8, 9, 10, 11], [0, 1, 2, 3, 4, 5, 6, 7, 8, 9, 10, 11, 12], [0, 1, 2, 3, 4, 5, 6, 7, 8, 9, 10, 11, 12, 13]] [13, 14] (by kernel_rfl) (by kernel_rfl) (fun (ix_ : Nat) (v : Value) (G : GH) => match ix_ with | 0 => v = fv | 1 => v = vi (nxtS r).2 | 2 => v = .slice (some ⟨b, o, none⟩) r.length c2 | 3 => v = .pointer (some ⟨b, o + 0 * 3, none⟩) | 4 => v = .pointer (some ⟨b, o + 0 * 3 + 1, none⟩) | 5 => v = vi (r[0]).from_ | 6 => v = .slice (some ⟨b, o, none⟩) r.length c2 | 7 => v = vi nn | 8 => v = vi ((nn : Int) - 1) | 9 => v = .pointer (some ⟨b, o + (nn - 1) * 3, none⟩) | 10 => v = .pointer (some ⟨b, o + (nn - 1) * 3 + 2, none⟩) | 11 => v = vi (r[nn - 1]).to | 12 => v = .agg #[vi (nxtS r).2, vi (r[0]).from_, vi (r[nn - 1]).to] | _ => True) hprm2 H ?_ ?_
    · clear H; refine (allI_cons ?_ (allI_cons ?_ (allI_cons ?_ (allI_cons ?_ (allI_cons ?_ (allI_cons ?_ (allI_cons ?_ (allI_cons ?_ (allI_cons ?_ (allI_cons ?_ (allI_cons ?_ (allI_cons ?_ (allI_cons ?_ (allI_cons ?_ (allI_cons ?_ allI_nil)))))))))))))))
      · intro Sd_ a w G1 _ hSi hc hG HT hv; have H := HT; clear hSi; have Hb := H.full; have H := Hb; clear hc; refine s_move H wn rfl rfl ?_; clear H; intro a H; refine wl_nil ⟨rfl, ?_⟩; exact draw_val (by kernel_rfl) hprm2 rfl rfl HT Hb hG hv (fun _ _ h => h) (rfl) H
      · intro Sd_ a w G1 _ hSi hc hG HT hv; have H := HT; clear hSi; have Hb := H.full; have H := Hb; clear hc; refine s_move H wn rfl rfl ?_; clear H; intro a H; refine wl_nil ⟨rfl, ?_⟩; exact draw_val (by kernel_rfl) hprm2 rfl rfl HT Hb hG hv (fun _ _ h => h) (rfl) H
      · intro Sd_ a w G1 _ hSi hc hG HT hv; have H := HT; clear hSi; have Hb := H.full; have H := Hb; clear hc; refine s_load ty73tok H wn rfl (H.hp.ocell 0 rfl rfl) rfl ?_; clear H; intro a H; refine wl_nil ⟨rfl, ?_⟩; exact draw_val (by kernel_rfl) hprm2 rfl rfl HT Hb hG hv (fun _ _ h => h) (rfl) H
      · intro Sd_ a w G1 _ hSi hc hG HT hv; have H := HT; clear hSi; obtain ⟨u15, hu15, hp15⟩ := hv 2 15 (hc 2 (by decide)) rfl; obtain rfl : u15 = .slice (some ⟨b, o, none⟩) r.length c2 := hp15; have H := H.addS hu15; have Hb := H.full; have H := Hb; clear hc; refine s_index un73tok ty100tok 0 H wn rfl rfl rfl hr0 rfl ?_; clear H; intro a H; refine wl_nil ⟨rfl, ?_⟩; exact draw_val (by kernel_rfl) hprm2 rfl rfl HT Hb hG hv (fun _ _ h => h) (rfl) H
      · intro Sd_ a w G1 _ hSi hc hG HT hv; have H := HT; clear hSi; obtain ⟨u16, hu16, hp16⟩ := hv 3 16 (hc 3 (by decide)) rfl; obtain rfl : u16 = .pointer (some ⟨b, o + 0 * 3, none⟩) := hp16; have H := H.addS hu16; have Hb := H.full; have H := Hb; clear hc; refine s_field fd100_1tok H wn rfl rfl ?_; clear H; intro a H; refine wl_nil ⟨rfl, ?_⟩; exact draw_val (by kernel_rfl) hprm2 rfl rfl HT Hb hG hv (fun _ _ h => h) (rfl) H
      · intro Sd_ a w G1 _ hSi hc hG HT hv; have H := HT; clear hSi; obtain ⟨u17, hu17, hp17⟩ := hv 4 17 (hc 4 (by decide)) rfl; obtain rfl : u17 = .pointer (some ⟨b, o + 0 * 3 + 1, none⟩) := hp17; have H := H.addS hu17; have Hb := H.full; have H := Hb; clear hc; refine s_load ty3tok H wn rfl (H.hp.gcell (gcell_mono hG (clu_get hvg hr0 1 _ rfl))) rfl ?_; clear H; intro a H; refine wl_nil ⟨rfl, ?_⟩; exact draw_val (by kernel_rfl) hprm2 rfl rfl HT Hb hG hv (fun _ _ h => h) (rfl) H
      · intro Sd_ a w G1 _ hSi hc hG HT hv; have H := HT; clear hSi; have Hb := H.full; have H := Hb; clear hc; refine s_load ty73tok H wn rfl (H.hp.ocell 0 rfl rfl) rfl ?_; clear H; intro a H; refine wl_nil ⟨rfl, ?_⟩; exact draw_val (by kernel_rfl) hprm2 rfl rfl HT Hb hG hv (fun _ _ h => h) (rfl) H
      · intro Sd_ a w G1 _ hSi hc hG HT hv; have H := HT; clear hSi; have Hb := H.full; have H := Hb; clear hc; refine s_move H wn rfl rfl ?_; clear H; intro a H; refine wl_nil ⟨rfl, ?_⟩; exact draw_val (by kernel_rfl) hprm2 rfl rfl HT Hb hG hv (fun _ _ h => h) (rfl) H
      · intro Sd_ a w G1 _ hSi hc hG HT hv; have H := HT; clear hSi; obtain ⟨u20, hu20, hp20⟩ := hv 7 20 (hc 7 (by decide)) rfl; obtain rfl : u20 = vi nn := hp20; have H := H.addS hu20; have Hb := H.full; have H := Hb; clear hc; refine s_sub _ H wn rfl rfl rfl (by omega) (by omega) rfl ?_; clear H; intro a H; refine wl_nil ⟨rfl, ?_⟩; exact draw_val (by kernel_rfl) hprm2 rfl rfl HT Hb hG hv (fun _ _ h => h) (rfl) H
      · intro Sd_ a w G1 _ hSi hc hG HT hv; have H := HT; clear hSi; obtain ⟨u19, hu19, hp19⟩ := hv 6 19 (hc 6 (by decide)) rfl; obtain rfl : u19 = .slice (some ⟨b, o, none⟩) r.length c2 := hp19; have H := H.addS hu19; obtain ⟨u21, hu21, hp21⟩ := hv 8 21 (hc 8 (by decide)) rfl; obtain rfl : u21 = vi ((nn : Int) - 1) := hp21; have H := H.addS hu21; have Hb := H.full; have H := Hb; clear hc; refine s_index un73tok ty100tok (nn - 1) H wn rfl rfl (by omega) hl1 rfl ?_; clear H; intro a H; refine wl_nil ⟨rfl, ?_⟩; exact draw_val (by kernel_rfl) hprm2 rfl rfl HT Hb hG hv (fun _ _ h => h) (rfl) H
      · intro Sd_ a w G1 _ hSi hc hG HT hv; have H := HT; clear hSi; obtain ⟨u22, hu22, hp22⟩ := hv 9 22 (hc 9 (by decide)) rfl; obtain rfl : u22 = .pointer (some ⟨b, o + (nn - 1) * 3, none⟩) := hp22; have H := H.addS hu22; have Hb := H.full; have H := Hb; clear hc; refine s_field fd100_2tok H wn rfl rfl ?_; clear H; intro a H; refine wl_nil ⟨rfl, ?_⟩; exact draw_val (by kernel_rfl) hprm2 rfl rfl HT Hb hG hv (fun _ _ h => h) (rfl) H
      · intro Sd_ a w G1 _ hSi hc hG HT hv; have H := HT; clear hSi; obtain ⟨u23, hu23, hp23⟩ := hv 10 23 (hc 10 (by decide)) rfl; obtain rfl : u23 = .pointer (some ⟨b, o + (nn - 1) * 3 + 2, none⟩) := hp23; have H := H.addS hu23; have Hb := H.full; have H := Hb; clear hc; refine s_load ty3tok H wn rfl (H.hp.gcell (gcell_mono hG (clu_get hvg hl1 2 _ rfl))) rfl ?_; clear H; intro a H; refine wl_nil ⟨rfl, ?_⟩; exact draw_val (by kernel_rfl) hprm2 rfl rfl HT Hb hG hv (fun _ _ h => h) (rfl) H
      · intro Sd_ a w G1 _ hSi hc hG HT hv; have H := HT; clear hSi; obtain ⟨u14, hu14, hp14⟩ := hv 1 14 (hc 1 (by decide)) rfl; obtain rfl : u14 = vi (nxtS r).2 := hp14; have H := H.addS hu14; obtain ⟨u18, hu18, hp18⟩ := hv 5 18 (hc 5 (by decide)) rfl; obtain rfl : u18 = vi (r[0]).from_ := hp18; have H := H.addS hu18; obtain ⟨u24, hu24, hp24⟩ := hv 11 24 (hc 11 (by decide)) rfl; obtain rfl : u24 = vi (r[nn - 1]).to := hp24; have H := H.addS hu24; have Hb := H.full; have H := Hb; clear hc; refine s_build sr66tok [_, _, _] H wn rfl rfl rfl rfl ?_; clear H; intro a H; refine wl_nil ⟨rfl, ?_⟩; exact draw_val (by kernel_rfl) hprm2 rfl rfl HT Hb hG hv (fun _ _ h => h) (rfl) H
      · intro _ _ _ _ hB; exact absurd hB (by decide)
      intro _ _ _ _ hB; exact absurd hB (by decide)
    clear H; intro a w G hGm2 H hv; obtain ⟨u13, hu13, hp13⟩ := hv 0 13 (by decide) rfl; obtain rfl : u13 = fv := hp13; have H := H.addS hu13; obtain ⟨u25, hu25, hp25⟩ := hv 12 25 (by decide) rfl; obtain rfl : u25 = .agg #[vi (nxtS r).2, vi (r[0]).from_, vi (r[nn - 1]).to] := hp25; have H := H.addS hu25; clear hv; refine s_callv (Li := [_]) (L := Lt) H wn rfl rfl (hcb j1 _ _ _ _ ⟨_, hnow2.head, rfl⟩ (fun b o h => hGm2 b o (hm10 b o (hgm b o h))) (hJm _ _ _ _ hGm2 hnow2.now) (Hp.owns (Li := [_]) H.hp)) rfl ?_; clear H; rintro v26 G26 Lt26 a w ⟨b26, rfl, hb1, hb2⟩ hm26 H; have hvg2 := (hvg.mono hGm2).mono hm26; refine s_not H wn rfl rfl ?_; clear H; intro a H; refine wl_nil ⟨rfl, ?_⟩; refine hK5 _ _ ?_; clear hK5; refine c_cond H rfl ?_ ?_
    · intro h27
      try have p27 := of_decide_eq_true h27
      refine c_ret ?_; refine (leave0 H Tryd.results47 ?_).1; exact H.hp.retD (L' := Lt26) (by repeat (first | exact List.Sublist.refl _ | apply List.Sublist.cons)) (.inr (hb2 (by simpa using h27)))
    intro h27
    try have p27 := of_decide_eq_false h27
    refine c_skip ?_; refine hK4 _ _ ?_; clear hK4; refine c_region ?_; refine s_load ty73tok H wn rfl (H.hp.ocell 0 rfl rfl) rfl ?_; clear H; intro a H; refine s_move H wn rfl rfl ?_; clear H; intro a H; refine s_sliceFrom un73tok ty100tok nn H wn rfl rfl rfl (by omega) rfl ?_; clear H; intro a H; have hlen : r.length - nn = (r.drop nn).length := (List.length_drop ..).symm; rw [hlen] at H; have hvg3 := hvg2.part nn r.length (by omega) (by rw [List.length_map]; exact Nat.le_refl _); rw [List.take_of_length_le (by rw [List.length_drop, List.length_map]; exact Nat.le_refl _), ← List.map_drop, hlen] at hvg3; have hnow3 := hnow2.step (hb1 (by simpa using h27)); refine s_store ty73tok 0 (vs := [_]) _ H wn rfl rfl rfl rfl rfl rfl rfl rfl ?_; clear H; intro w H; dsimp only [List.set, setRow] at H; refine wl_nil ?_; refine loop_end ((r.drop nn, _, c2 - nn, f', j1 + 1, Lt26, G26)) (by exact (H).sub ⟨rfl, rfl, trivial⟩) ?_ ?_
    · (try dsimp only); exact ⟨by rw [← hlen]; omega, hvg3, fun b o h => hm26 b o (hGm2 b o (hm10 b o (hgm b o h))), hnow3⟩
    dsimp only; rw [← hlen]; omega
  intro h7
  try have p7 := of_decide_eq_false h7
  have hnl : tkF f r = [] := by
    match f with
    | 0 => rfl
    | f + 1 => rw [tkF, dif_neg (by omega)]
  rw [hnl] at hnow; refine c_exit ?_; refine (leave0 H Tryd.results47 ?_).2; refine H.hp.retD (L' := Lt) (by repeat (first | exact List.Sublist.refl _ | apply List.Sublist.cons)) (.inl ?_); have h := hnow.len
  simp only [List.length_nil, Nat.add_zero] at h
  rw [List.length_map, ← h]; exact hnow.now
end Go.Proofs.YtpmcdlhhfbobfaaDoor
