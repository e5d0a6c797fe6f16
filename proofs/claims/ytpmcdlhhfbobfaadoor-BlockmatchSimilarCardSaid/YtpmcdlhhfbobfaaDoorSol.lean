/-
  Package alignment: set, and the greatest scores.
-/
import Derived.Test.YtpmcdlhhfbobfaaDoorAln
import Derived.Test.YtpmcdlhhfbobfaaDoorDe
namespace Go.Proofs.YtpmcdlhhfbobfaaDoor
open Go.RowKit
theorem un32sol : Tryd.prog.underlying 32 = some (.slice 3) := by kernel_rfl
theorem ty3sol : Ty Tryd.prog 3 1 8 [.int .i64 0] false := ⟨by kernel_rfl, by kernel_rfl⟩
theorem un85sol : Tryd.prog.underlying 85 = some (.array 2 84) := by kernel_rfl
theorem ty84sol : Ty Tryd.prog 84 1 24 [.slice none 0 0] false := ⟨by kernel_rfl, by kernel_rfl⟩
theorem un84sol : Tryd.prog.underlying 84 = some (.slice 5) := by kernel_rfl
theorem ty5sol : Ty Tryd.prog 5 1 1 [.int .u8 0] false := ⟨by kernel_rfl, by kernel_rfl⟩
theorem fd87_1sol : Fld Tryd.prog 87 1 1 := ⟨by kernel_rfl⟩
theorem fd87_2sol : Fld Tryd.prog 87 2 3 := ⟨by kernel_rfl⟩
/-- The greatest score of two suffixes (a changed region costs nothing). -/
def sol (a b : List TokD) (i k : Nat) : Int :=
  if hi : i < a.length then
    if hk : k < b.length then
      (if a[i].key = b[k].key ∧ max (sol a b (i + 1) k) (sol a b i (k + 1)) ≤ sol a b (i + 1) (k + 1) + wtT a[i] b[k] then sol a b (i + 1) (k + 1) + wtT a[i] b[k] else max (sol a b (i + 1) k) (sol a b i (k + 1)))
    else sol a b (i + 1) k
  else 0
termination_by (a.length - i) + (b.length - k)
theorem sol_out {a b : List TokD} {i k : Nat} (h : ¬ i < a.length) : sol a b i k = 0 := by rw [sol, dif_neg h]
theorem sol_end {a b : List TokD} {i k : Nat} (h : i < a.length) (hk : ¬ k < b.length) : sol a b i k = sol a b (i + 1) k := by rw [sol, dif_pos h, dif_neg hk]
theorem sol_in {a b : List TokD} {i k : Nat} (h : i < a.length) (hk : k < b.length) : sol a b i k = if a[i].key = b[k].key ∧ max (sol a b (i + 1) k) (sol a b i (k + 1)) ≤ sol a b (i + 1) (k + 1) + wtT a[i] b[k] then sol a b (i + 1) (k + 1) + wtT a[i] b[k] else max (sol a b (i + 1) k) (sol a b i (k + 1)) := by rw [sol, dif_pos h, dif_pos hk]
theorem sol_bound {a b : List TokD} (ha : ∀ x ∈ a, 1 ≤ x.weight ∧ x.weight ≤ 1000) (hb : ∀ x ∈ b, 1 ≤ x.weight ∧ x.weight ≤ 1000) : ∀ (q i k : Nat), (a.length - i) + (b.length - k) ≤ q → 0 ≤ sol a b i k ∧ sol a b i k ≤ 1000 * ((a.length - i : Nat) : Int)
  | 0, i, k, h => by rw [sol_out (by omega)]; omega
  | q + 1, i, k, h => by
    by_cases hi : i < a.length
    · have h1 := sol_bound ha hb q (i + 1) k (by omega)
      by_cases hk : k < b.length
      · rw [sol_in hi hk]; have h2 := sol_bound ha hb q i (k + 1) (by omega); have h3 := sol_bound ha hb q (i + 1) (k + 1) (by omega); have h4 := ha _ (List.getElem_mem hi); have h5 := hb _ (List.getElem_mem hk)
        have h6 : 1 ≤ wtT a[i] b[k] ∧ wtT a[i] b[k] ≤ 1000 := by unfold wtT; omega
        split <;> omega
      rw [sol_end hi hk]; omega
    rw [sol_out hi]; omega
abbrev bT (b : Nat) (x y z v : Value) : Nat × Obj := (b, .cells #[x, y, z, v] 87 (0, 0))
abbrev bY (b : Nat) (X : List Value) : Nat × Obj := (b, .cells X.toArray 5 (0, 0))
theorem set_spec {G : GH} {w0 : World} {bt cb rb W M s i k : Nat} {x y z : Value} {R : List Int} {X : List Value} (c score : Int) (hO : Owns G [bT bt x y z (vi W), bY cb X, bF rb R] w0) (hs : s < 2) (hc : [x, y, z, vi W][1 + s * 1]? = some (.slice (some ⟨cb, 0, none⟩) M M)) (hk : k < W) (hR : R.length = W) (hX : X.length = M) (hi : i * W + k < M) (hM : M ≤ 10000000) (hW : W ≤ 10000) (hi2 : i ≤ 10000) :
    Calls Tryd.prog 52 #[.pointer (some ⟨bt, 0, none⟩), .slice (some ⟨rb, 0, none⟩) W W, vi s, vi i, vi k, vi score, .int .u8 c] w0 (RetL w0 G [bT bt x y z (vi W), bY cb X, bF rb R] fun u G' L' => L' = [bT bt x y z (vi W), bY cb (X.set (i * W + k) (.int .u8 c)), bF rb (R.set k score)]) := by
  have hiw : (i : Int) * (W : Int) = ((i * W : Nat) : Int) := by push_cast; rfl
  refine enterL (N := 34) (T := [(0, _), (1, _), (2, _), (3, _), (4, _), (5, _), (6, _)]) Tryd.func52 rfl Tryd.ntmps52 rfl rfl hO ?_; intro a H; refine c_seq (fun _ hK1 => ?_); refine c_region ?_; (iterate 3 refine s_move H wn rfl rfl ?_; clear H; intro a H); refine s_index un32sol ty3sol k H wn rfl rfl rfl hk rfl ?_; clear H; intro a H; refine s_store ty3sol 2 (c := R.map vi) (vs := [_]) ((R.set k score).map vi) H wn rfl rfl rfl rfl rfl rfl (Eq.mpr Nat.ble_eq (by rw [List.length_map, hR]; simp only [List.length_singleton]; omega)) (by rw [Nat.zero_add, Nat.mul_one, List.map_set]; rfl) ?_; clear H; intro w H; dsimp only [List.set] at H; refine wl_nil ?_; refine hK1 _ _ ?_; clear hK1
  have hprm1 : ∀ (ix_ : Nat) (v : Value) (G G' : GH), (∀ k o, G k = some o → G' k = some o) → (fun (ix_ : Nat) (v : Value) (G : GH) => match ix_ with | 0 => v = .pointer (some ⟨bt, 0, none⟩) | 1 => v = vi s | 2 => v = .pointer (some ⟨bt, 0, none⟩) | 3 => v = .pointer (some ⟨bt, 1, none⟩) | 4 => v = .pointer (some ⟨bt, 0 + 1 + s * 1, none⟩) | 5 => v = .slice (some ⟨cb, 0, none⟩) M M | 6 => v = vi i | 7 => v = .pointer (some ⟨bt, 0, none⟩) | 8 => v = .pointer (some ⟨bt, 0, none⟩) | 9 => v = .pointer (some ⟨bt, 3, none⟩) | 10 => v = vi W | 11 => v = vi ((i * W : Nat) : Int) | 12 => v = vi k | 13 => v = vi (((i * W : Nat) : Int) + k) | 14 => v = .int .u8 c | 15 => v = .pointer (some ⟨cb, 0 + (i * W + k) * 1, none⟩) | _ => True) ix_ v G → (fun (ix_ : Nat) (v : Value) (G : GH) => match ix_ with | 0 => v = .pointer (some ⟨bt, 0, none⟩) | 1 => v = vi s | 2 => v = .pointer (some ⟨bt, 0, none⟩) | 3 => v = .pointer (some ⟨bt, 1, none⟩) | 4 => v = .pointer (some ⟨bt, 0 + 1 + s * 1, none⟩) | 5 => v = .slice (some ⟨cb, 0, none⟩) M M | 6 => v = vi i | 7 => v = .pointer (some ⟨bt, 0, none⟩) | 8 => v = .pointer (some ⟨bt, 0, none⟩) | 9 => v = .pointer (some ⟨bt, 3, none⟩) | 10 => v = vi W | 11 => v = vi ((i * W : Nat) : Int) | 12 => v = vi k | 13 => v = vi (((i * W : Nat) : Int) + k) | 14 => v = .int .u8 c | 15 => v = .pointer (some ⟨cb, 0 + (i * W + k) * 1, none⟩) | _ => True) ix_ v G' := by
    intro ix_ v G G' hm h
    match ix_, h with
    | 0, h => exact h
    | 1, h => exact h
    | 2, h => exact h
    | 3, h => exact h
    | 4, h => exact h
    | 5, h => exact h
    | 6, h => exact h
    | 7, h => exact h
    | 8, h => exact h
    | 9, h => exact h
    | 10, h => exact h
    | 11, h => exact h
    | 12, h => exact h
    | 13, h => exact h
    | 14, h => exact h
    | 15, h => exact h
    | 16, h => exact trivial
    | _ + 17, h => exact trivial
  refine c_drawI (hmxb) [[], [], [0], [0, 2], [0, 1, 2, 3], [0, 1, 2, 3, 4], [], [], [7], [7, 8], [7, 8, 9], [6, 7, 8, 9, 10], [], [6, 7, 8, 9, 10, 11, 12], [], [0, 1, 2, 3, 4, 5, 6, 7, 8, 9, 10, 11, 12, 13, 14], [0, 1, 2, 3, 4, 5, 6, 7, 8, 9, 10, 11, 12, 13, 14, 15]] [16] (by kernel_rfl) (by kernel_rfl) (fun (ix_ : Nat) (v : Value) (G : GH) => match ix_ with | 0 => v = .pointer (some ⟨bt, 0, none⟩) | 1 => v = vi s | 2 => v = .pointer (some ⟨bt, 0, none⟩) | 3 => v = .pointer (some ⟨bt, 1, none⟩) | 4 => v = .pointer (some ⟨bt, 0 + 1 + s * 1, none⟩) | 5 => v = .slice (some ⟨cb, 0, none⟩) M M | 6 => v = vi i | 7 => v = .pointer (some ⟨bt, 0, none⟩) | 8 => v = .pointer (some ⟨bt, 0, none⟩) | 9 => v = .pointer (some ⟨bt, 3, none⟩) | 10 => v = vi W | 11 => v = vi ((i * W : Nat) : Int) | 12 => v = vi k | 13 => v = vi (((i * W : Nat) : Int) + k) | 14 => v = .int .u8 c | 15 => v = .pointer (some ⟨cb, 0 + (i * W + k) * 1, none⟩) | _ => True) hprm1 H ?_ ?_
  · clear H; refine (allI_cons ?_ (allI_cons ?_ (allI_cons ?_ (allI_cons ?_ (allI_cons ?_ (allI_cons ?_ (allI_cons ?_ (allI_cons ?_ (allI_cons ?_ (allI_cons ?_ (allI_cons ?_ (allI_cons ?_ (allI_cons ?_ (allI_cons ?_ (allI_cons ?_ (allI_cons ?_ (allI_cons ?_ allI_nil)))))))))))))))))
    · intro Sd_ a w G1 _ hSi hc hG HT hv; have H := HT; clear hSi; have Hb := H.full; have H := Hb; clear hc; refine s_move H wn rfl rfl ?_; clear H; intro a H; refine wl_nil ⟨rfl, ?_⟩; exact draw_val (by kernel_rfl) hprm1 rfl rfl HT Hb hG hv (fun _ _ h => h) (rfl) H
    · intro Sd_ a w G1 _ hSi hc hG HT hv; have H := HT; clear hSi; have Hb := H.full; have H := Hb; clear hc; refine s_move H wn rfl rfl ?_; clear H; intro a H; refine wl_nil ⟨rfl, ?_⟩; exact draw_val (by kernel_rfl) hprm1 rfl rfl HT Hb hG hv (fun _ _ h => h) (rfl) H
    · intro Sd_ a w G1 _ hSi hc hG HT hv; have H := HT; clear hSi; obtain ⟨u18, hu18, hp18⟩ := hv 0 18 (hc 0 (by decide)) rfl; obtain rfl : u18 = .pointer (some ⟨bt, 0, none⟩) := hp18; have H := H.addS hu18; have Hb := H.full; have H := Hb; clear hc; refine s_nilCheck H wn rfl rfl ?_; clear H; intro a H; refine wl_nil ⟨rfl, ?_⟩; exact draw_val (by kernel_rfl) hprm1 rfl rfl HT Hb hG hv (fun _ _ h => h) (rfl) H
    · intro Sd_ a w G1 _ hSi hc hG HT hv; have H := HT; clear hSi; obtain ⟨u20, hu20, hp20⟩ := hv 2 20 (hc 2 (by decide)) rfl; obtain rfl : u20 = .pointer (some ⟨bt, 0, none⟩) := hp20; have H := H.addS hu20; have Hb := H.full; have H := Hb; clear hc; refine s_field fd87_1sol H wn rfl rfl ?_; clear H; intro a H; refine wl_nil ⟨rfl, ?_⟩; exact draw_val (by kernel_rfl) hprm1 rfl rfl HT Hb hG hv (fun _ _ h => h) (rfl) H
    · intro Sd_ a w G1 _ hSi hc hG HT hv; have H := HT; clear hSi; obtain ⟨u21, hu21, hp21⟩ := hv 3 21 (hc 3 (by decide)) rfl; obtain rfl : u21 = .pointer (some ⟨bt, 1, none⟩) := hp21; have H := H.addS hu21; obtain ⟨u19, hu19, hp19⟩ := hv 1 19 (hc 1 (by decide)) rfl; obtain rfl : u19 = vi s := hp19; have H := H.addS hu19; have Hb := H.full; have H := Hb; clear hc; refine s_indexArr un85sol ty84sol s H wn rfl rfl rfl hs rfl ?_; clear H; intro a H; refine wl_nil ⟨rfl, ?_⟩; exact draw_val (by kernel_rfl) hprm1 rfl rfl HT Hb hG hv (fun _ _ h => h) (rfl) H
    · intro Sd_ a w G1 _ hSi hc hG HT hv; have H := HT; clear hSi; obtain ⟨u22, hu22, hp22⟩ := hv 4 22 (hc 4 (by decide)) rfl; obtain rfl : u22 = .pointer (some ⟨bt, 0 + 1 + s * 1, none⟩) := hp22; have H := H.addS hu22; have Hb := H.full; have H := Hb; clear hc; refine s_load ty84sol H wn rfl (H.hp.ocell 0 rfl (by rw [Nat.zero_add]; simpa using hc)) rfl ?_; clear H; intro a H; refine wl_nil ⟨rfl, ?_⟩; exact draw_val (by kernel_rfl) hprm1 rfl rfl HT Hb hG hv (fun _ _ h => h) (rfl) H
    · intro Sd_ a w G1 _ hSi hc hG HT hv; have H := HT; clear hSi; have Hb := H.full; have H := Hb; clear hc; refine s_move H wn rfl rfl ?_; clear H; intro a H; refine wl_nil ⟨rfl, ?_⟩; exact draw_val (by kernel_rfl) hprm1 rfl rfl HT Hb hG hv (fun _ _ h => h) (rfl) H
    · intro Sd_ a w G1 _ hSi hc hG HT hv; have H := HT; clear hSi; have Hb := H.full; have H := Hb; clear hc; refine s_move H wn rfl rfl ?_; clear H; intro a H; refine wl_nil ⟨rfl, ?_⟩; exact draw_val (by kernel_rfl) hprm1 rfl rfl HT Hb hG hv (fun _ _ h => h) (rfl) H
    · intro Sd_ a w G1 _ hSi hc hG HT hv; have H := HT; clear hSi; obtain ⟨u25, hu25, hp25⟩ := hv 7 25 (hc 7 (by decide)) rfl; obtain rfl : u25 = .pointer (some ⟨bt, 0, none⟩) := hp25; have H := H.addS hu25; have Hb := H.full; have H := Hb; clear hc; refine s_nilCheck H wn rfl rfl ?_; clear H; intro a H; refine wl_nil ⟨rfl, ?_⟩; exact draw_val (by kernel_rfl) hprm1 rfl rfl HT Hb hG hv (fun _ _ h => h) (rfl) H
    · intro Sd_ a w G1 _ hSi hc hG HT hv; have H := HT; clear hSi; obtain ⟨u26, hu26, hp26⟩ := hv 8 26 (hc 8 (by decide)) rfl; obtain rfl : u26 = .pointer (some ⟨bt, 0, none⟩) := hp26; have H := H.addS hu26; have Hb := H.full; have H := Hb; clear hc; refine s_field fd87_2sol H wn rfl rfl ?_; clear H; intro a H; refine wl_nil ⟨rfl, ?_⟩; exact draw_val (by kernel_rfl) hprm1 rfl rfl HT Hb hG hv (fun _ _ h => h) (rfl) H
    · intro Sd_ a w G1 _ hSi hc hG HT hv; have H := HT; clear hSi; obtain ⟨u27, hu27, hp27⟩ := hv 9 27 (hc 9 (by decide)) rfl; obtain rfl : u27 = .pointer (some ⟨bt, 3, none⟩) := hp27; have H := H.addS hu27; have Hb := H.full; have H := Hb; clear hc; refine s_load ty3sol H wn rfl (H.hp.ocell 0 rfl rfl) rfl ?_; clear H; intro a H; refine wl_nil ⟨rfl, ?_⟩; exact draw_val (by kernel_rfl) hprm1 rfl rfl HT Hb hG hv (fun _ _ h => h) (rfl) H
    · intro Sd_ a w G1 _ hSi hc hG HT hv; have H := HT; clear hSi; obtain ⟨u24, hu24, hp24⟩ := hv 6 24 (hc 6 (by decide)) rfl; obtain rfl : u24 = vi i := hp24; have H := H.addS hu24; obtain ⟨u28, hu28, hp28⟩ := hv 10 28 (hc 10 (by decide)) rfl; obtain rfl : u28 = vi W := hp28; have H := H.addS hu28; have Hb := H.full; have H := Hb; clear hc; refine s_mul ((i * W : Nat) : Int) H wn rfl rfl hiw (by omega) (by omega) rfl ?_; clear H; intro a H; refine wl_nil ⟨rfl, ?_⟩; exact draw_val (by kernel_rfl) hprm1 rfl rfl HT Hb hG hv (fun _ _ h => h) (rfl) H
    · intro Sd_ a w G1 _ hSi hc hG HT hv; have H := HT; clear hSi; have Hb := H.full; have H := Hb; clear hc; refine s_move H wn rfl rfl ?_; clear H; intro a H; refine wl_nil ⟨rfl, ?_⟩; exact draw_val (by kernel_rfl) hprm1 rfl rfl HT Hb hG hv (fun _ _ h => h) (rfl) H
    · intro Sd_ a w G1 _ hSi hc hG HT hv; have H := HT; clear hSi; obtain ⟨u29, hu29, hp29⟩ := hv 11 29 (hc 11 (by decide)) rfl; obtain rfl : u29 = vi ((i * W : Nat) : Int) := hp29; have H := H.addS hu29; obtain ⟨u30, hu30, hp30⟩ := hv 12 30 (hc 12 (by decide)) rfl; obtain rfl : u30 = vi k := hp30; have H := H.addS hu30; have Hb := H.full; have H := Hb; clear hc; refine s_add _ H wn rfl rfl rfl (by omega) (by omega) rfl ?_; clear H; intro a H; refine wl_nil ⟨rfl, ?_⟩; exact draw_val (by kernel_rfl) hprm1 rfl rfl HT Hb hG hv (fun _ _ h => h) (rfl) H
    · intro Sd_ a w G1 _ hSi hc hG HT hv; have H := HT; clear hSi; have Hb := H.full; have H := Hb; clear hc; refine s_move H wn rfl rfl ?_; clear H; intro a H; refine wl_nil ⟨rfl, ?_⟩; exact draw_val (by kernel_rfl) hprm1 rfl rfl HT Hb hG hv (fun _ _ h => h) (rfl) H
    · intro Sd_ a w G1 _ hSi hc hG HT hv; have H := HT; clear hSi; obtain ⟨u23, hu23, hp23⟩ := hv 5 23 (hc 5 (by decide)) rfl; obtain rfl : u23 = .slice (some ⟨cb, 0, none⟩) M M := hp23; have H := H.addS hu23; obtain ⟨u31, hu31, hp31⟩ := hv 13 31 (hc 13 (by decide)) rfl; obtain rfl : u31 = vi (((i * W : Nat) : Int) + k) := hp31; have H := H.addS hu31; have Hb := H.full; have H := Hb; clear hc; refine s_index un84sol ty5sol (i * W + k) H wn rfl rfl (by omega) (by omega) rfl ?_; clear H; intro a H; refine wl_nil ⟨rfl, ?_⟩; exact draw_val (by kernel_rfl) hprm1 rfl rfl HT Hb hG hv (fun _ _ h => h) (rfl) H
    intro _ _ _ _ hB; exact absurd hB (by decide)
  clear H; intro a w G hGm1 H hv; obtain ⟨u32, hu32, hp32⟩ := hv 14 32 (by decide) rfl; obtain rfl : u32 = .int .u8 c := hp32; have H := H.addS hu32; obtain ⟨u33, hu33, hp33⟩ := hv 15 33 (by decide) rfl; obtain rfl : u33 = .pointer (some ⟨cb, 0 + (i * W + k) * 1, none⟩) := hp33; have H := H.addS hu33; clear hv; refine s_store ty5sol 1 (c := X) (vs := [_]) (X.set (i * W + k) (.int .u8 c)) H wn rfl rfl rfl rfl rfl rfl (Eq.mpr Nat.ble_eq (by rw [hX]; simp only [List.length_singleton]; omega)) (by rw [Nat.zero_add, Nat.mul_one]; rfl) ?_; clear H; intro w H; dsimp only [List.set] at H; refine wl_nil ⟨rfl, ?_⟩; refine (leave0 H Tryd.results52 ?_).2; exact H.hp.retL rfl
end Go.Proofs.YtpmcdlhhfbobfaaDoor
