/-
  What the claim stands on, part 5: Package property: pairs. Package stylesheet: IsName, FindName, Find, is. Package stylesheet: own. Maps from numbers to their places in a list. Ranges over functions that turn a block of their own. Ranges over functions that turn a block of their own and might never end by themselves. Package stylesheet: the chain of a style. Package stylesheet: Check.
-/
import Derived.Test.YtlnhhlighgaapaaGreatPd
namespace Go.Proofs.YtlnhhlighgaapaaGreat
section
open Go.RowKit
theorem un211prm : Tryz.prog.underlying 211 = some (.pointer 40) := by kernel_rfl
theorem en187prm : ∀ args w, (callFunc 187 args).run Tryz.prog w = .ok (.enter 187 args) w := enters Tryz.func187 rfl (by kernel_rfl)
/-- The properties of two lists, key by key. -/
def prF : Nat → List PropD → List PropD → List (Option PropD × Option PropD)
  | 0, _, _ => []
  | _ + 1, [], [] => []
  | f + 1, p :: l, [] => (some p, none) :: prF f l []
  | f + 1, [], q :: m => (none, some q) :: prF f [] m
  | f + 1, p :: l, q :: m => if p.key ≤ q.key then (if q.key ≤ p.key then (some p, some q) :: prF f l m else (some p, none) :: prF f l (q :: m)) else (none, some q) :: prF f (p :: l) m
def prL (l m : List PropD) : List (Option PropD × Option PropD) := prF (l.length + m.length) l m
theorem prF_len : ∀ (f : Nat) (l m : List PropD), (prF f l m).length ≤ f
  | 0, _, _ => Nat.le_refl _
  | f + 1, [], [] => Nat.zero_le _
  | f + 1, p :: l, [] => Nat.succ_le_succ (prF_len f l [])
  | f + 1, [], q :: m => Nat.succ_le_succ (prF_len f [] m)
  | f + 1, p :: l, q :: m => by
    rw [prF]; split
    · split
      · exact Nat.succ_le_succ (prF_len f l m)
      exact Nat.succ_le_succ (prF_len f l (q :: m))
    exact Nat.succ_le_succ (prF_len f (p :: l) m)
theorem prF_end {l m : List PropD} {i k f : Nat} (hi : l.length ≤ i) (hk : m.length ≤ k) : prF f (l.drop i) (m.drop k) = [] := by
  rw [List.drop_of_length_le hi, List.drop_of_length_le hk]
  cases f <;> rfl
theorem prF_a {l m : List PropD} {i k f : Nat} {x : PropD} (hx : l[i]? = some x) (hk : m.length ≤ k) : prF (f + 1) (l.drop i) (m.drop k) = (some x, none) :: prF f (l.drop (i + 1)) (m.drop k) := by
  obtain ⟨hi, rfl⟩ := List.getElem?_eq_some_iff.1 hx; rw [List.drop_of_length_le hk, List.drop_eq_getElem_cons hi]; rfl
theorem prF_b {l m : List PropD} {i k f : Nat} {y : PropD} (hi : l.length ≤ i) (hy : m[k]? = some y) : prF (f + 1) (l.drop i) (m.drop k) = (none, some y) :: prF f (l.drop i) (m.drop (k + 1)) := by
  obtain ⟨hk, rfl⟩ := List.getElem?_eq_some_iff.1 hy; rw [List.drop_of_length_le hi, List.drop_eq_getElem_cons hk]; rfl
theorem prF_ab {l m : List PropD} {i k f : Nat} {x y : PropD} (hx : l[i]? = some x) (hy : m[k]? = some y) (h1 : x.key ≤ y.key) (h2 : y.key ≤ x.key) : prF (f + 1) (l.drop i) (m.drop k) = (some x, some y) :: prF f (l.drop (i + 1)) (m.drop (k + 1)) := by
  obtain ⟨hi, rfl⟩ := List.getElem?_eq_some_iff.1 hx; obtain ⟨hk, rfl⟩ := List.getElem?_eq_some_iff.1 hy; rw [List.drop_eq_getElem_cons hi, List.drop_eq_getElem_cons hk, prF, if_pos h1, if_pos h2]
theorem prF_aa {l m : List PropD} {i k f : Nat} {x y : PropD} (hx : l[i]? = some x) (hy : m[k]? = some y) (h1 : x.key ≤ y.key) (h2 : ¬ y.key ≤ x.key) : prF (f + 1) (l.drop i) (m.drop k) = (some x, none) :: prF f (l.drop (i + 1)) (m.drop k) := by
  obtain ⟨hi, rfl⟩ := List.getElem?_eq_some_iff.1 hx; obtain ⟨hk, rfl⟩ := List.getElem?_eq_some_iff.1 hy; rw [List.drop_eq_getElem_cons hi, List.drop_eq_getElem_cons hk, prF, if_pos h1, if_neg h2]
theorem prF_bb {l m : List PropD} {i k f : Nat} {x y : PropD} (hx : l[i]? = some x) (hy : m[k]? = some y) (h1 : ¬ x.key ≤ y.key) : prF (f + 1) (l.drop i) (m.drop k) = (none, some y) :: prF f (l.drop i) (m.drop (k + 1)) := by
  obtain ⟨hi, rfl⟩ := List.getElem?_eq_some_iff.1 hx; obtain ⟨hk, rfl⟩ := List.getElem?_eq_some_iff.1 hy; rw [List.drop_eq_getElem_cons hi, List.drop_eq_getElem_cons hk, prF, if_neg h1]
theorem pick_at {G : GH} {l : List PropD} {A : Option Addr} {n c : Nat} (hv : RepV G (.sl 2 (l.map PropD.dat)) (.slice A n c)) (i : Nat) : ∃ x b o, i < l.length → A = some ⟨b, o, none⟩ ∧ l[i]? = some x ∧ gcell G b (o + i * 2) = some (vi x.key) ∧ gcell G b (o + i * 2 + 1) = some (vi x.value) := by
  by_cases h : i < l.length
  · obtain ⟨b, o, e, hr⟩ := prop_at hv h; exact ⟨l[i], b, o, fun _ => ⟨e, List.getElem?_eq_getElem h, hr 0 _ rfl, hr 1 _ rfl⟩⟩
  exact ⟨⟨0, 0⟩, 0, 0, fun h' => absurd h' h⟩
def ptrR (g : GH) : Option PropD → Option Addr → Prop
  | none, p => p = none
  | some x, p => ∃ b o, p = some ⟨b, o, none⟩ ∧ gcell g b o = some (vi x.key) ∧ gcell g b (o + 1) = some (vi x.value)
theorem ptrR.mono {G G' : GH} (hm : ∀ k o, G k = some o → G' k = some o) : ∀ {x : Option PropD} {p : Option Addr}, ptrR G x p → ptrR G' x p
  | none, _, h => h
  | some _, _, h => by obtain ⟨b, o, e, h1, h2⟩ := h; exact ⟨b, o, e, gcell_mono hm h1, gcell_mono hm h2⟩
def prP (x : Option PropD × Option PropD) : AP := fun args g => ∃ p q, args = [.pointer p, .pointer q] ∧ ptrR g x.1 p ∧ ptrR g x.2 q
theorem pr_at {A : List (Option PropD × Option PropD)} {k : Nat} {args : List Value} {g : GH} (h : AtAP (A.map prP) k args g) : ∃ (hk : k < A.length) (p q : Option Addr), args = [.pointer p, .pointer q] ∧ ptrR g A[k].1 p ∧ ptrR g A[k].2 q := by
  obtain ⟨p, hp, hargs⟩ := h; rw [List.getElem?_map] at hp; obtain ⟨q, hq, rfl⟩ := Option.map_eq_some_iff.1 hp; obtain ⟨hk, rfl⟩ := List.getElem?_eq_some_iff.1 hq; obtain ⟨x, y, h1, h2, h3⟩ := hargs; exact ⟨hk, x, y, h1, h2, h3⟩
set_option maxHeartbeats 1000000 in
theorem pairs1_iter {G : GH} {ba bb : Nat} {l m : List PropD} {va vb : Value} (ha : gcell G ba 0 = some va) (hb : gcell G bb 0 = some vb) (hva : RepV G (.sl 2 (l.map PropD.dat)) va) (hvb : RepV G (.sl 2 (m.map PropD.dat)) vb) :
    Iter Tryz.prog G (.func (.func 187) #[] #[.pointer (some ⟨ba, 0, none⟩), .pointer (some ⟨bb, 0, none⟩)]) ((prL l m).map prP) := by
  intro J Jx fv G1 L w0 hfv hGi hJm hJx hJ hO hcb; refine callV_func (caps := [.pointer (some ⟨ba, 0, none⟩), .pointer (some ⟨bb, 0, none⟩)]) en187prm ?_; obtain ⟨A, ca, rfl, hca1, hca2, -⟩ := hva.slice; obtain ⟨B, cb, rfl, hcb1, hcb2, -⟩ := hvb.slice; have hml : maxLen = 9223372036854775807 := rfl; rw [List.length_map] at *; replace ha := gcell_mono hGi ha; replace hb := gcell_mono hGi hb; replace hva := hva.mono hGi; replace hvb := hvb.mono hGi; refine enterL (N := 83) (T := [(0, _), (1, _), (2, _)]) Tryz.func187 rfl Tryz.ntmps187 rfl rfl hO ?_; intro a H; refine c_seqR (fun _ hK1 => ?_); (iterate 2 refine s_assign H wn rfl rfl ?_; clear H; intro a H); refine hK1 _ _ ?_; clear hK1; refine c_block ?_; skip; refine c_loopS (ι := Nat × Nat × Nat × Nat × OL × GH) (Tc := [(0, _), (1, _), (2, _)]) (Lc := []) (fun (gh : Nat × Nat × Nat × Nat × OL × GH) => [(4, vi gh.1), (5, vi gh.2.1)]) (fun (gh : Nat × Nat × Nat × Nat × OL × GH) => [] ++ gh.2.2.2.2.1) (fun (gh : Nat × Nat × Nat × Nat × OL × GH) => gh.2.2.2.2.2) (fun (gh : Nat × Nat × Nat × Nat × OL × GH) => gh.1 ≤ l.length ∧ gh.2.1 ≤ m.length ∧ (l.length - gh.1) + (m.length - gh.2.1) ≤ gh.2.2.1 ∧ (∀ b o, G1 b = some o → gh.2.2.2.2.2 b = some o) ∧ Now ((prL l m).map prP) prP J (prL l m).length gh.2.2.2.1 (prF gh.2.2.1 (l.drop gh.1) (m.drop gh.2.1)) gh.2.2.2.2.2 gh.2.2.2.2.1) (fun (gh : Nat × Nat × Nat × Nat × OL × GH) => (l.length - gh.1) + (m.length - gh.2.1)) ((0, 0, l.length + m.length, 0, L, G1)) (by exact (H).sub ⟨rfl, rfl, rfl, rfl, rfl, trivial⟩) ?_ ?_
  · exact ⟨Nat.zero_le _, Nat.zero_le _, Nat.le_refl _, fun _ _ h => h, ⟨hJ, fun i a h => by rw [Nat.zero_add, List.getElem?_map]; rw [List.drop_zero, List.drop_zero, show prF (l.length + m.length) l m = prL l m from rfl] at h; rw [h]; rfl, Nat.zero_add _⟩⟩
  clear H; intro gh a w hI H; obtain ⟨i, k, f, j1, Lt, g⟩ := gh; dsimp only at hI H; obtain ⟨hi, hk, hf, hgm, hnow⟩ := hI; have hag := gcell_mono hgm ha; have hbg := gcell_mono hgm hb; dsimp only [List.cons_append, List.nil_append, List.append_nil] at H; refine c_seq (fun _ hK2 => ?_); refine c_seqR (fun _ hK3 => ?_); refine s_move H wn rfl rfl ?_; clear H; intro a H; refine s_load ty25run H wn rfl (H.hp.gcell hag) rfl ?_; clear H; intro a H; refine s_len un25run H wn rfl rfl ?_; clear H; intro a H; refine s_cmp H wn rfl rfl rfl rfl ?_; clear H; intro a H; refine s_move H wn rfl rfl ?_; clear H; intro a H; refine s_split H 12 rfl ?_ ?_
  · intro h12
    try have p12 := of_decide_eq_true h12
    (iterate 4 refine s_skip H rfl rfl h12 rfl ?_; clear H; intro a H); refine s_pick_t H wn rfl h12 rfl rfl ?_; clear H; intro a H; refine hK3 _ _ ?_; clear hK3; refine c_cond_t H rfl rfl ?_; refine c_skip ?_; refine hK2 _ _ ?_; clear hK2; refine c_block ?_; refine c_seqR (fun _ hK4 => ?_); (iterate 2 refine s_assign H wn rfl rfl ?_; clear H; intro a H); refine hK4 _ _ ?_; clear hK4; refine c_seq (fun _ hK5 => ?_); refine c_seq (fun _ hK6 => ?_); obtain ⟨x, xb, xo, hx⟩ := pick_at (hva.mono hgm) i; obtain ⟨y, yb, yo, hy⟩ := pick_at (hvb.mono hgm) k
    by_cases n0 : ¬ (k : Int) = (m.length : Int)
    · skip; have n1 : (i : Int) < (l.length : Int) := p12
      by_cases n2 : x.key ≤ y.key
      · skip; refine c_drawI (hmx) [[], [], [1], [0, 1, 2], [0, 1, 2, 3], [0, 1, 2, 3, 4], [0, 1, 2, 3, 4], [0, 1, 2, 3, 4, 6], [0, 1, 2, 3, 4, 5, 6, 7], [0, 1, 2, 3, 4, 5, 6, 7, 8], [0, 1, 2, 3, 4, 5, 6, 7, 8, 9], [0, 1, 2, 3, 4, 5, 6, 7, 8, 9], [0, 1, 2, 3, 4, 5, 6, 7, 8, 9, 10, 11], [0, 1, 2, 3, 4, 5, 6, 7, 8, 9, 10, 11, 12], [0, 1, 2, 3, 4, 5, 6, 7, 8, 9, 10, 11, 12, 13], [0, 1, 2, 3, 4, 5, 6, 7, 8, 9], [0, 1, 2, 3, 4, 5, 6, 7, 8, 9], [0, 1, 2, 3, 4, 5, 6, 7, 8, 9, 15, 16], [0, 1, 2, 3, 4, 5, 6, 7, 8, 9, 15, 16, 17], [0, 1, 2, 3, 4, 5, 6, 7, 8, 9, 15, 16, 17, 18], [0, 1, 2, 3, 4, 5, 6, 7, 8, 9, 10, 11, 12, 13, 14, 15, 16, 17, 18, 19], [0, 1, 2, 3, 4, 5, 6, 7, 8, 9, 10, 11, 12, 13, 14, 15, 16, 17, 18, 19, 20], [0, 1, 2, 3, 4, 5, 6, 7, 8, 9, 10, 11, 12, 13, 14, 15, 16, 17, 18, 19, 20, 21]] [] (by kernel_rfl) (by kernel_rfl) (fun (ix_ : Nat) (v : Value) (G : GH) => match ix_ with | 0 => v = vi k | 1 => v = .slice B m.length cb | 2 => v = vi m.length | 3 => v = .bool (decide ((k : Int) = (m.length : Int))) | 4 => v = .bool (decide ((k : Int) = (m.length : Int))) | 5 => v = vi i | 6 => v = .slice A l.length ca | 7 => v = vi l.length | 8 => v = .bool (decide ((i : Int) < (l.length : Int))) | 9 => v = .bool (decide ((i : Int) < (l.length : Int))) | 10 => v = .slice A l.length ca | 11 => v = vi i | 12 => v = .pointer (some ⟨xb, xo + i * 2, none⟩) | 13 => v = .pointer (some ⟨xb, xo + i * 2 + 0, none⟩) | 14 => v = vi x.key | 15 => v = .slice B m.length cb | 16 => v = vi k | 17 => v = .pointer (some ⟨yb, yo + k * 2, none⟩) | 18 => v = .pointer (some ⟨yb, yo + k * 2 + 0, none⟩) | 19 => v = vi y.key | 20 => v = .bool (decide (x.key ≤ y.key)) | 21 => v = .bool (decide (x.key ≤ y.key)) | 22 => v = .bool (decide (x.key ≤ y.key)) | _ => True) (fun _ _ _ _ _ h => h) H ?_ ?_
        · clear H; refine (allI_cons ?_ (allI_cons ?_ (allI_cons ?_ (allI_cons ?_ (allI_cons ?_ (allI_cons ?_ (allI_cons ?_ (allI_cons ?_ (allI_cons ?_ (allI_cons ?_ (allI_cons ?_ (allI_cons ?_ (allI_cons ?_ (allI_cons ?_ (allI_cons ?_ (allI_cons ?_ (allI_cons ?_ (allI_cons ?_ (allI_cons ?_ (allI_cons ?_ (allI_cons ?_ (allI_cons ?_ (allI_cons ?_ allI_nil)))))))))))))))))))))))
          · refine opI [] rfl trivial (by kernel_rfl) (fun _ _ _ _ _ h => h) rfl rfl ?_; intro Sd_ a w G1 hG HT H fin; refine s_move H wn rfl rfl ?_; clear H; intro a H; exact fin H (fun _ _ h => h) (rfl)
          · refine opI [] rfl trivial (by kernel_rfl) (fun _ _ _ _ _ h => h) rfl rfl ?_; intro Sd_ a w G1 hG HT H fin; refine s_load ty25run H wn rfl (H.hp.gcell (gcell_mono hG hbg)) rfl ?_; clear H; intro a H; exact fin H (fun _ _ h => h) (rfl)
          · refine opI [(1, 19, _)] rfl ⟨fun _ _ h => h, trivial⟩ (by kernel_rfl) (fun _ _ _ _ _ h => h) rfl rfl ?_; intro Sd_ a w G1 hG HT H fin; refine s_len un25run H wn rfl rfl ?_; clear H; intro a H; exact fin H (fun _ _ h => h) (rfl)
          · refine opI [(0, 18, _), (2, 20, _)] rfl ⟨fun _ _ h => h, fun _ _ h => h, trivial⟩ (by kernel_rfl) (fun _ _ _ _ _ h => h) rfl rfl ?_; intro Sd_ a w G1 hG HT H fin; refine s_cmp H wn rfl rfl rfl rfl ?_; clear H; intro a H; exact fin H (fun _ _ h => h) (rfl)
          · refine opI [(3, 21, _)] rfl ⟨fun _ _ h => h, trivial⟩ (by kernel_rfl) (fun _ _ _ _ _ h => h) rfl rfl ?_; intro Sd_ a w G1 hG HT H fin; refine s_move H wn rfl rfl ?_; clear H; intro a H; exact fin H (fun _ _ h => h) (rfl)
          · refine opI [(4, 22, _)] rfl ⟨fun _ _ h => h, trivial⟩ (by kernel_rfl) (fun _ _ _ _ _ h => h) rfl rfl ?_; intro Sd_ a w G1 hG HT H fin; refine s_move H (wg H rfl rfl (decide_eq_false n0)) rfl rfl ?_; clear H; intro a H; exact fin H (fun _ _ h => h) (rfl)
          · refine opI [(4, 22, _)] rfl ⟨fun _ _ h => h, trivial⟩ (by kernel_rfl) (fun _ _ _ _ _ h => h) rfl rfl ?_; intro Sd_ a w G1 hG HT H fin; refine s_load ty25run H (wg H rfl rfl (decide_eq_false n0)) rfl (H.hp.gcell (gcell_mono hG hag)) rfl ?_; clear H; intro a H; exact fin H (fun _ _ h => h) (rfl)
          · refine opI [(6, 24, _), (4, 22, _)] rfl ⟨fun _ _ h => h, fun _ _ h => h, trivial⟩ (by kernel_rfl) (fun _ _ _ _ _ h => h) rfl rfl ?_; intro Sd_ a w G1 hG HT H fin; refine s_len un25run H (wg H rfl rfl (decide_eq_false n0)) rfl rfl ?_; clear H; intro a H; exact fin H (fun _ _ h => h) (rfl)
          · refine opI [(5, 23, _), (7, 25, _), (4, 22, _)] rfl ⟨fun _ _ h => h, fun _ _ h => h, fun _ _ h => h, trivial⟩ (by kernel_rfl) (fun _ _ _ _ _ h => h) rfl rfl ?_; intro Sd_ a w G1 hG HT H fin; refine s_cmp H (wg H rfl rfl (decide_eq_false n0)) rfl rfl rfl rfl ?_; clear H; intro a H; exact fin H (fun _ _ h => h) (rfl)
          · refine opI [(8, 26, _), (4, 22, _)] rfl ⟨fun _ _ h => h, fun _ _ h => h, trivial⟩ (by kernel_rfl) (fun _ _ _ _ _ h => h) rfl rfl ?_; intro Sd_ a w G1 hG HT H fin; refine s_move H (wg H rfl rfl (decide_eq_false n0)) rfl rfl ?_; clear H; intro a H; exact fin H (fun _ _ h => h) (rfl)
          · refine opI [(9, 27, _)] rfl ⟨fun _ _ h => h, trivial⟩ (by kernel_rfl) (fun _ _ _ _ _ h => h) rfl rfl ?_; intro Sd_ a w G1 hG HT H fin; refine s_load ty25run H (wg H rfl rfl (decide_eq_true n1)) rfl (H.hp.gcell (gcell_mono hG hag)) rfl ?_; clear H; intro a H; exact fin H (fun _ _ h => h) (rfl)
          · refine opI [(9, 27, _)] rfl ⟨fun _ _ h => h, trivial⟩ (by kernel_rfl) (fun _ _ _ _ _ h => h) rfl rfl ?_; intro Sd_ a w G1 hG HT H fin; refine s_move H (wg H rfl rfl (decide_eq_true n1)) rfl rfl ?_; clear H; intro a H; exact fin H (fun _ _ h => h) (rfl)
          · refine opI [(10, 28, _), (11, 29, _), (9, 27, _)] rfl ⟨fun _ _ h => h, fun _ _ h => h, fun _ _ h => h, trivial⟩ (by kernel_rfl) (fun _ _ _ _ _ h => h) rfl rfl ?_; intro Sd_ a w G1 hG HT H fin; obtain ⟨rfl, -⟩ := hx (by omega); refine s_index un25run ty40run i H (wg H rfl rfl (decide_eq_true n1)) rfl rfl rfl (by omega) rfl ?_; clear H; intro a H; exact fin H (fun _ _ h => h) (rfl)
          · refine opI [(12, 30, _), (9, 27, _)] rfl ⟨fun _ _ h => h, fun _ _ h => h, trivial⟩ (by kernel_rfl) (fun _ _ _ _ _ h => h) rfl rfl ?_; intro Sd_ a w G1 hG HT H fin; refine s_field fd40_0prp H (wg H rfl rfl (decide_eq_true n1)) rfl rfl ?_; clear H; intro a H; exact fin H (fun _ _ h => h) (rfl)
          · refine opI [(13, 31, _), (9, 27, _)] rfl ⟨fun _ _ h => h, fun _ _ h => h, trivial⟩ (by kernel_rfl) (fun _ _ _ _ _ h => h) rfl rfl ?_; intro Sd_ a w G1 hG HT H fin; refine s_load ty3run H (wg H rfl rfl (decide_eq_true n1)) rfl (H.hp.gcell (gcell_mono hG (hx (by omega)).2.2.1)) rfl ?_; clear H; intro a H; exact fin H (fun _ _ h => h) (rfl)
          · refine opI [(9, 27, _)] rfl ⟨fun _ _ h => h, trivial⟩ (by kernel_rfl) (fun _ _ _ _ _ h => h) rfl rfl ?_; intro Sd_ a w G1 hG HT H fin; refine s_load ty25run H (wg H rfl rfl (decide_eq_true n1)) rfl (H.hp.gcell (gcell_mono hG hbg)) rfl ?_; clear H; intro a H; exact fin H (fun _ _ h => h) (rfl)
          · refine opI [(9, 27, _)] rfl ⟨fun _ _ h => h, trivial⟩ (by kernel_rfl) (fun _ _ _ _ _ h => h) rfl rfl ?_; intro Sd_ a w G1 hG HT H fin; refine s_move H (wg H rfl rfl (decide_eq_true n1)) rfl rfl ?_; clear H; intro a H; exact fin H (fun _ _ h => h) (rfl)
          · refine opI [(15, 33, _), (16, 34, _), (9, 27, _)] rfl ⟨fun _ _ h => h, fun _ _ h => h, fun _ _ h => h, trivial⟩ (by kernel_rfl) (fun _ _ _ _ _ h => h) rfl rfl ?_; intro Sd_ a w G1 hG HT H fin; obtain ⟨rfl, -⟩ := hy (by omega); refine s_index un25run ty40run k H (wg H rfl rfl (decide_eq_true n1)) rfl rfl rfl (by omega) rfl ?_; clear H; intro a H; exact fin H (fun _ _ h => h) (rfl)
          · refine opI [(17, 35, _), (9, 27, _)] rfl ⟨fun _ _ h => h, fun _ _ h => h, trivial⟩ (by kernel_rfl) (fun _ _ _ _ _ h => h) rfl rfl ?_; intro Sd_ a w G1 hG HT H fin; refine s_field fd40_0prp H (wg H rfl rfl (decide_eq_true n1)) rfl rfl ?_; clear H; intro a H; exact fin H (fun _ _ h => h) (rfl)
          · refine opI [(18, 36, _), (9, 27, _)] rfl ⟨fun _ _ h => h, fun _ _ h => h, trivial⟩ (by kernel_rfl) (fun _ _ _ _ _ h => h) rfl rfl ?_; intro Sd_ a w G1 hG HT H fin; refine s_load ty3run H (wg H rfl rfl (decide_eq_true n1)) rfl (H.hp.gcell (gcell_mono hG (hy (by omega)).2.2.1)) rfl ?_; clear H; intro a H; exact fin H (fun _ _ h => h) (rfl)
          · refine opI [(14, 32, _), (19, 37, _), (9, 27, _)] rfl ⟨fun _ _ h => h, fun _ _ h => h, fun _ _ h => h, trivial⟩ (by kernel_rfl) (fun _ _ _ _ _ h => h) rfl rfl ?_; intro Sd_ a w G1 hG HT H fin; refine s_cmp H (wg H rfl rfl (decide_eq_true n1)) rfl rfl rfl rfl ?_; clear H; intro a H; exact fin H (fun _ _ h => h) (rfl)
          · refine opI [(9, 27, _), (20, 38, _), (4, 22, _)] rfl ⟨fun _ _ h => h, fun _ _ h => h, fun _ _ h => h, trivial⟩ (by kernel_rfl) (fun _ _ _ _ _ h => h) rfl rfl ?_; intro Sd_ a w G1 hG HT H fin; refine s_pick_t H (wg H rfl rfl (decide_eq_false n0)) rfl (decide_eq_true n1) rfl rfl ?_; clear H; intro a H; exact fin H (fun _ _ h => h) (rfl)
          refine opI [(4, 22, _), (21, 39, _)] rfl ⟨fun _ _ h => h, fun _ _ h => h, trivial⟩ (by kernel_rfl) (fun _ _ _ _ _ h => h) rfl rfl ?_; intro Sd_ a w G1 hG HT H fin; refine s_pick_f H wn rfl (decide_eq_false n0) rfl rfl ?_; clear H; intro a H; exact fin H (fun _ _ h => h) (rfl)
        clear H; intro a w G hGm3 H hv; obtain ⟨u40, hu40, hp40⟩ := hv 22 40 (by decide) rfl; obtain rfl : u40 = .bool (decide (x.key ≤ y.key)) := hp40; have H := H.addS hu40; clear hv; refine wl_nil ⟨rfl, ?_⟩; refine hK6 _ _ ?_; clear hK6; refine c_cond_t H rfl (decide_eq_true n2) ?_; refine c_region ?_; refine s_load ty25run H wn rfl (H.hp.gcell (gcell_mono hGm3 hag)) rfl ?_; clear H; intro a H; rw [(hx (by omega)).1] at H; refine s_move H wn rfl rfl ?_; clear H; intro a H; refine s_index un25run ty40run i H wn rfl rfl rfl (by omega) rfl ?_; clear H; intro a H; refine s_assign H wn rfl rfl ?_; clear H; intro a H; refine wl_nil ?_; refine hK5 _ _ ?_; clear hK5; refine c_seq (fun _ hK7 => ?_); refine c_seq (fun _ hK8 => ?_)
        have m0 : ¬ (i : Int) = (l.length : Int) := by omega
        have m1 : (k : Int) < (m.length : Int) := by omega
        by_cases m2 : y.key ≤ x.key
        · skip; refine c_drawI (hmx) [[], [], [1], [0, 1, 2], [0, 1, 2, 3], [0, 1, 2, 3, 4], [0, 1, 2, 3, 4], [0, 1, 2, 3, 4, 6], [0, 1, 2, 3, 4, 5, 6, 7], [0, 1, 2, 3, 4, 5, 6, 7, 8], [0, 1, 2, 3, 4, 5, 6, 7, 8, 9], [0, 1, 2, 3, 4, 5, 6, 7, 8, 9], [0, 1, 2, 3, 4, 5, 6, 7, 8, 9, 10, 11], [0, 1, 2, 3, 4, 5, 6, 7, 8, 9, 10, 11, 12], [0, 1, 2, 3, 4, 5, 6, 7, 8, 9, 10, 11, 12, 13], [0, 1, 2, 3, 4, 5, 6, 7, 8, 9], [0, 1, 2, 3, 4, 5, 6, 7, 8, 9], [0, 1, 2, 3, 4, 5, 6, 7, 8, 9, 15, 16], [0, 1, 2, 3, 4, 5, 6, 7, 8, 9, 15, 16, 17], [0, 1, 2, 3, 4, 5, 6, 7, 8, 9, 15, 16, 17, 18], [0, 1, 2, 3, 4, 5, 6, 7, 8, 9, 10, 11, 12, 13, 14, 15, 16, 17, 18, 19], [0, 1, 2, 3, 4, 5, 6, 7, 8, 9, 10, 11, 12, 13, 14, 15, 16, 17, 18, 19, 20], [0, 1, 2, 3, 4, 5, 6, 7, 8, 9, 10, 11, 12, 13, 14, 15, 16, 17, 18, 19, 20, 21]] [] (by kernel_rfl) (by kernel_rfl) (fun (ix_ : Nat) (v : Value) (G : GH) => match ix_ with | 0 => v = vi i | 1 => v = .slice A l.length ca | 2 => v = vi l.length | 3 => v = .bool (decide ((i : Int) = (l.length : Int))) | 4 => v = .bool (decide ((i : Int) = (l.length : Int))) | 5 => v = vi k | 6 => v = .slice B m.length cb | 7 => v = vi m.length | 8 => v = .bool (decide ((k : Int) < (m.length : Int))) | 9 => v = .bool (decide ((k : Int) < (m.length : Int))) | 10 => v = .slice B m.length cb | 11 => v = vi k | 12 => v = .pointer (some ⟨yb, yo + k * 2, none⟩) | 13 => v = .pointer (some ⟨yb, yo + k * 2 + 0, none⟩) | 14 => v = vi y.key | 15 => v = .slice A l.length ca | 16 => v = vi i | 17 => v = .pointer (some ⟨xb, xo + i * 2, none⟩) | 18 => v = .pointer (some ⟨xb, xo + i * 2 + 0, none⟩) | 19 => v = vi x.key | 20 => v = .bool (decide (y.key ≤ x.key)) | 21 => v = .bool (decide (y.key ≤ x.key)) | 22 => v = .bool (decide (y.key ≤ x.key)) | _ => True) (fun _ _ _ _ _ h => h) H ?_ ?_
          · clear H; refine (allI_cons ?_ (allI_cons ?_ (allI_cons ?_ (allI_cons ?_ (allI_cons ?_ (allI_cons ?_ (allI_cons ?_ (allI_cons ?_ (allI_cons ?_ (allI_cons ?_ (allI_cons ?_ (allI_cons ?_ (allI_cons ?_ (allI_cons ?_ (allI_cons ?_ (allI_cons ?_ (allI_cons ?_ (allI_cons ?_ (allI_cons ?_ (allI_cons ?_ (allI_cons ?_ (allI_cons ?_ (allI_cons ?_ allI_nil)))))))))))))))))))))))
            · refine opI [] rfl trivial (by kernel_rfl) (fun _ _ _ _ _ h => h) rfl rfl ?_; intro Sd_ a w G1 hG HT H fin; refine s_move H wn rfl rfl ?_; clear H; intro a H; exact fin H (fun _ _ h => h) (rfl)
            · refine opI [] rfl trivial (by kernel_rfl) (fun _ _ _ _ _ h => h) rfl rfl ?_; intro Sd_ a w G1 hG HT H fin; refine s_load ty25run H wn rfl (H.hp.gcell (gcell_mono hG (gcell_mono hGm3 hag))) rfl ?_; clear H; intro a H; exact fin H (fun _ _ h => h) (rfl)
            · refine opI [(1, 45, _)] rfl ⟨fun _ _ h => h, trivial⟩ (by kernel_rfl) (fun _ _ _ _ _ h => h) rfl rfl ?_; intro Sd_ a w G1 hG HT H fin; refine s_len un25run H wn rfl rfl ?_; clear H; intro a H; exact fin H (fun _ _ h => h) (rfl)
            · refine opI [(0, 44, _), (2, 46, _)] rfl ⟨fun _ _ h => h, fun _ _ h => h, trivial⟩ (by kernel_rfl) (fun _ _ _ _ _ h => h) rfl rfl ?_; intro Sd_ a w G1 hG HT H fin; refine s_cmp H wn rfl rfl rfl rfl ?_; clear H; intro a H; exact fin H (fun _ _ h => h) (rfl)
            · refine opI [(3, 47, _)] rfl ⟨fun _ _ h => h, trivial⟩ (by kernel_rfl) (fun _ _ _ _ _ h => h) rfl rfl ?_; intro Sd_ a w G1 hG HT H fin; refine s_move H wn rfl rfl ?_; clear H; intro a H; exact fin H (fun _ _ h => h) (rfl)
            · refine opI [(4, 48, _)] rfl ⟨fun _ _ h => h, trivial⟩ (by kernel_rfl) (fun _ _ _ _ _ h => h) rfl rfl ?_; intro Sd_ a w G1 hG HT H fin; refine s_move H (wg H rfl rfl (decide_eq_false m0)) rfl rfl ?_; clear H; intro a H; exact fin H (fun _ _ h => h) (rfl)
            · refine opI [(4, 48, _)] rfl ⟨fun _ _ h => h, trivial⟩ (by kernel_rfl) (fun _ _ _ _ _ h => h) rfl rfl ?_; intro Sd_ a w G1 hG HT H fin; refine s_load ty25run H (wg H rfl rfl (decide_eq_false m0)) rfl (H.hp.gcell (gcell_mono hG (gcell_mono hGm3 hbg))) rfl ?_; clear H; intro a H; exact fin H (fun _ _ h => h) (rfl)
            · refine opI [(6, 50, _), (4, 48, _)] rfl ⟨fun _ _ h => h, fun _ _ h => h, trivial⟩ (by kernel_rfl) (fun _ _ _ _ _ h => h) rfl rfl ?_; intro Sd_ a w G1 hG HT H fin; refine s_len un25run H (wg H rfl rfl (decide_eq_false m0)) rfl rfl ?_; clear H; intro a H; exact fin H (fun _ _ h => h) (rfl)
            · refine opI [(5, 49, _), (7, 51, _), (4, 48, _)] rfl ⟨fun _ _ h => h, fun _ _ h => h, fun _ _ h => h, trivial⟩ (by kernel_rfl) (fun _ _ _ _ _ h => h) rfl rfl ?_; intro Sd_ a w G1 hG HT H fin; refine s_cmp H (wg H rfl rfl (decide_eq_false m0)) rfl rfl rfl rfl ?_; clear H; intro a H; exact fin H (fun _ _ h => h) (rfl)
            · refine opI [(8, 52, _), (4, 48, _)] rfl ⟨fun _ _ h => h, fun _ _ h => h, trivial⟩ (by kernel_rfl) (fun _ _ _ _ _ h => h) rfl rfl ?_; intro Sd_ a w G1 hG HT H fin; refine s_move H (wg H rfl rfl (decide_eq_false m0)) rfl rfl ?_; clear H; intro a H; exact fin H (fun _ _ h => h) (rfl)
            · refine opI [(9, 53, _)] rfl ⟨fun _ _ h => h, trivial⟩ (by kernel_rfl) (fun _ _ _ _ _ h => h) rfl rfl ?_; intro Sd_ a w G1 hG HT H fin; refine s_load ty25run H (wg H rfl rfl (decide_eq_true m1)) rfl (H.hp.gcell (gcell_mono hG (gcell_mono hGm3 hbg))) rfl ?_; clear H; intro a H; exact fin H (fun _ _ h => h) (rfl)
            · refine opI [(9, 53, _)] rfl ⟨fun _ _ h => h, trivial⟩ (by kernel_rfl) (fun _ _ _ _ _ h => h) rfl rfl ?_; intro Sd_ a w G1 hG HT H fin; refine s_move H (wg H rfl rfl (decide_eq_true m1)) rfl rfl ?_; clear H; intro a H; exact fin H (fun _ _ h => h) (rfl)
            · refine opI [(10, 54, _), (11, 55, _), (9, 53, _)] rfl ⟨fun _ _ h => h, fun _ _ h => h, fun _ _ h => h, trivial⟩ (by kernel_rfl) (fun _ _ _ _ _ h => h) rfl rfl ?_; intro Sd_ a w G1 hG HT H fin; obtain ⟨rfl, -⟩ := hy (by omega); refine s_index un25run ty40run k H (wg H rfl rfl (decide_eq_true m1)) rfl rfl rfl (by omega) rfl ?_; clear H; intro a H; exact fin H (fun _ _ h => h) (rfl)
            · refine opI [(12, 56, _), (9, 53, _)] rfl ⟨fun _ _ h => h, fun _ _ h => h, trivial⟩ (by kernel_rfl) (fun _ _ _ _ _ h => h) rfl rfl ?_; intro Sd_ a w G1 hG HT H fin; refine s_field fd40_0prp H (wg H rfl rfl (decide_eq_true m1)) rfl rfl ?_; clear H; intro a H; exact fin H (fun _ _ h => h) (rfl)
            · refine opI [(13, 57, _), (9, 53, _)] rfl ⟨fun _ _ h => h, fun _ _ h => h, trivial⟩ (by kernel_rfl) (fun _ _ _ _ _ h => h) rfl rfl ?_; intro Sd_ a w G1 hG HT H fin; refine s_load ty3run H (wg H rfl rfl (decide_eq_true m1)) rfl (H.hp.gcell (gcell_mono hG (gcell_mono hGm3 (hy (by omega)).2.2.1))) rfl ?_; clear H; intro a H; exact fin H (fun _ _ h => h) (rfl)
            · refine opI [(9, 53, _)] rfl ⟨fun _ _ h => h, trivial⟩ (by kernel_rfl) (fun _ _ _ _ _ h => h) rfl rfl ?_; intro Sd_ a w G1 hG HT H fin; refine s_load ty25run H (wg H rfl rfl (decide_eq_true m1)) rfl (H.hp.gcell (gcell_mono hG (gcell_mono hGm3 hag))) rfl ?_; clear H; intro a H; exact fin H (fun _ _ h => h) (rfl)
            · refine opI [(9, 53, _)] rfl ⟨fun _ _ h => h, trivial⟩ (by kernel_rfl) (fun _ _ _ _ _ h => h) rfl rfl ?_; intro Sd_ a w G1 hG HT H fin; refine s_move H (wg H rfl rfl (decide_eq_true m1)) rfl rfl ?_; clear H; intro a H; exact fin H (fun _ _ h => h) (rfl)
            · refine opI [(15, 59, _), (16, 60, _), (9, 53, _)] rfl ⟨fun _ _ h => h, fun _ _ h => h, fun _ _ h => h, trivial⟩ (by kernel_rfl) (fun _ _ _ _ _ h => h) rfl rfl ?_; intro Sd_ a w G1 hG HT H fin; obtain ⟨rfl, -⟩ := hx (by omega); refine s_index un25run ty40run i H (wg H rfl rfl (decide_eq_true m1)) rfl rfl rfl (by omega) rfl ?_; clear H; intro a H; exact fin H (fun _ _ h => h) (rfl)
            · refine opI [(17, 61, _), (9, 53, _)] rfl ⟨fun _ _ h => h, fun _ _ h => h, trivial⟩ (by kernel_rfl) (fun _ _ _ _ _ h => h) rfl rfl ?_; intro Sd_ a w G1 hG HT H fin; refine s_field fd40_0prp H (wg H rfl rfl (decide_eq_true m1)) rfl rfl ?_; clear H; intro a H; exact fin H (fun _ _ h => h) (rfl)
            · refine opI [(18, 62, _), (9, 53, _)] rfl ⟨fun _ _ h => h, fun _ _ h => h, trivial⟩ (by kernel_rfl) (fun _ _ _ _ _ h => h) rfl rfl ?_; intro Sd_ a w G1 hG HT H fin; refine s_load ty3run H (wg H rfl rfl (decide_eq_true m1)) rfl (H.hp.gcell (gcell_mono hG (gcell_mono hGm3 (hx (by omega)).2.2.1))) rfl ?_; clear H; intro a H; exact fin H (fun _ _ h => h) (rfl)
            · refine opI [(14, 58, _), (19, 63, _), (9, 53, _)] rfl ⟨fun _ _ h => h, fun _ _ h => h, fun _ _ h => h, trivial⟩ (by kernel_rfl) (fun _ _ _ _ _ h => h) rfl rfl ?_; intro Sd_ a w G1 hG HT H fin; refine s_cmp H (wg H rfl rfl (decide_eq_true m1)) rfl rfl rfl rfl ?_; clear H; intro a H; exact fin H (fun _ _ h => h) (rfl)
            · refine opI [(9, 53, _), (20, 64, _), (4, 48, _)] rfl ⟨fun _ _ h => h, fun _ _ h => h, fun _ _ h => h, trivial⟩ (by kernel_rfl) (fun _ _ _ _ _ h => h) rfl rfl ?_; intro Sd_ a w G1 hG HT H fin; refine s_pick_t H (wg H rfl rfl (decide_eq_false m0)) rfl (decide_eq_true m1) rfl rfl ?_; clear H; intro a H; exact fin H (fun _ _ h => h) (rfl)
            refine opI [(4, 48, _), (21, 65, _)] rfl ⟨fun _ _ h => h, fun _ _ h => h, trivial⟩ (by kernel_rfl) (fun _ _ _ _ _ h => h) rfl rfl ?_; intro Sd_ a w G1 hG HT H fin; refine s_pick_f H wn rfl (decide_eq_false m0) rfl rfl ?_; clear H; intro a H; exact fin H (fun _ _ h => h) (rfl)
          clear H; intro a w G hGm5 H hv; obtain ⟨u66, hu66, hp66⟩ := hv 22 66 (by decide) rfl; obtain rfl : u66 = .bool (decide (y.key ≤ x.key)) := hp66; have H := H.addS hu66; clear hv; refine wl_nil ⟨rfl, ?_⟩; refine hK8 _ _ ?_; clear hK8; refine c_cond_t H rfl (decide_eq_true m2) ?_; refine c_region ?_; refine s_load ty25run H wn rfl (H.hp.gcell (gcell_mono hGm5 (gcell_mono hGm3 hbg))) rfl ?_; clear H; intro a H; rw [(hy (by omega)).1] at H; refine s_move H wn rfl rfl ?_; clear H; intro a H; refine s_index un25run ty40run k H wn rfl rfl rfl (by omega) rfl ?_; clear H; intro a H; refine s_assign H wn rfl rfl ?_; clear H; intro a H; refine wl_nil ?_; refine hK7 _ _ ?_; clear hK7; refine c_seq (fun _ hK9 => ?_); refine c_seqR (fun _ hK10 => ?_); refine s_move H wn rfl rfl ?_; clear H; intro a H; refine s_neqnilp un211prm H wn rfl rfl ?_; clear H; intro a H; refine hK10 _ _ ?_; clear hK10; refine c_cond H rfl ?_ ?_
          · intro h71
            try have p71 := of_decide_eq_true h71
            refine c_region ?_; refine s_move H wn rfl rfl ?_; clear H; intro a H; refine s_add _ H wn rfl rfl rfl (by omega) (by omega) rfl ?_; clear H; intro a H; refine s_assign H wn rfl rfl ?_; clear H; intro a H; refine wl_nil ?_; refine hK9 _ _ ?_; clear hK9; refine c_seq (fun _ hK11 => ?_); refine c_seqR (fun _ hK12 => ?_); refine s_move H wn rfl rfl ?_; clear H; intro a H; refine s_neqnilp un211prm H wn rfl rfl ?_; clear H; intro a H; refine hK12 _ _ ?_; clear hK12; refine c_cond H rfl ?_ ?_
            · intro h75
              try have p75 := of_decide_eq_true h75
              refine c_region ?_; refine s_move H wn rfl rfl ?_; clear H; intro a H; refine s_add _ H wn rfl rfl rfl (by omega) (by omega) rfl ?_; clear H; intro a H; refine s_assign H wn rfl rfl ?_; clear H; intro a H; refine wl_nil ?_; refine hK11 _ _ ?_; clear hK11; refine c_seq (fun _ hK13 => ?_); obtain ⟨f', rfl⟩ : ∃ f', f = f' + 1 := ⟨f - 1, by omega⟩; have hgm5 := fun b o (h : g b = some o) => hGm5 b o (hGm3 b o h)
              first
                | rw [prF_ab (hx (by omega)).2.1 (hy (by omega)).2.1 n2 m2] at hnow
                | rw [prF_aa (hx (by omega)).2.1 (hy (by omega)).2.1 n2 m2] at hnow
                | rw [prF_bb (hx (by omega)).2.1 (hy (by omega)).2.1 n2] at hnow
                | rw [prF_a (hx (by omega)).2.1 (by omega)] at hnow
                | rw [prF_b (by omega) (hy (by omega)).2.1] at hnow
              have hnow2 := hnow.up hJm hgm5; refine c_region ?_; (iterate 3 refine s_move H wn rfl rfl ?_; clear H; intro a H); refine s_callv (Li := []) (L := Lt) H wn rfl rfl (hcb j1 _ _ _ _ ⟨_, hnow2.head, _, _, rfl, by first | exact rfl | exact ⟨_, _, rfl, gcell_mono hgm5 (hx (by omega)).2.2.1, gcell_mono hgm5 (hx (by omega)).2.2.2⟩, by first | exact rfl | exact ⟨_, _, rfl, gcell_mono hgm5 (hy (by omega)).2.2.1, gcell_mono hgm5 (hy (by omega)).2.2.2⟩⟩ (fun b o h => hgm5 b o (hgm b o h)) hnow2.now (Hp.owns (Li := []) H.hp)) rfl ?_; clear H; rintro v81 G81 Lt81 a w ⟨b81, rfl, hb1, hb2⟩ hm81 H; refine s_not H wn rfl rfl ?_; clear H; intro a H; refine wl_nil ?_; refine hK13 _ _ ?_; clear hK13; refine c_cond H rfl ?_ ?_
              · intro h82
                try have p82 := of_decide_eq_true h82
                refine c_ret ?_; refine (leave0 H Tryz.results187 ?_).1
                first
                  | exact H.hp.retD (L' := Lt81) (by repeat (first | exact List.Sublist.refl _ | apply List.Sublist.cons)) (.inr (hb2 (by simpa using h82)))
                  | (rw [prF_end (by omega) (by omega)] at hnow
                     refine H.hp.retD (L' := Lt) (by repeat (first | exact List.Sublist.refl _ | apply List.Sublist.cons)) (.inl ?_); have h := hnow.len
                     simp only [List.length_nil, Nat.add_zero] at h
                     rw [← h]
                     exact hnow.now)
              intro h82
              try have p82 := of_decide_eq_false h82
              refine c_skip ?_; refine loop_end ((i + 1, k + 1, f', j1 + 1, Lt81, G81)) (by exact (H).sub ⟨rfl, rfl, rfl, rfl, rfl, trivial⟩) ?_ ?_
              · (try dsimp only); exact ⟨by omega, by omega, by omega, fun b o h => hm81 b o (hgm5 b o (hgm b o h)), hnow2.step (hb1 (by simpa using h82))⟩
              first | omega | (dsimp only; omega)
            intro h75
            try have p75 := of_decide_eq_false h75
            cases h75
          intro h71
          try have p71 := of_decide_eq_false h71
          cases h71
        skip; refine c_drawI (hmx) [[], [], [1], [0, 1, 2], [0, 1, 2, 3], [0, 1, 2, 3, 4], [0, 1, 2, 3, 4], [0, 1, 2, 3, 4, 6], [0, 1, 2, 3, 4, 5, 6, 7], [0, 1, 2, 3, 4, 5, 6, 7, 8], [0, 1, 2, 3, 4, 5, 6, 7, 8, 9], [0, 1, 2, 3, 4, 5, 6, 7, 8, 9], [0, 1, 2, 3, 4, 5, 6, 7, 8, 9, 10, 11], [0, 1, 2, 3, 4, 5, 6, 7, 8, 9, 10, 11, 12], [0, 1, 2, 3, 4, 5, 6, 7, 8, 9, 10, 11, 12, 13], [0, 1, 2, 3, 4, 5, 6, 7, 8, 9], [0, 1, 2, 3, 4, 5, 6, 7, 8, 9], [0, 1, 2, 3, 4, 5, 6, 7, 8, 9, 15, 16], [0, 1, 2, 3, 4, 5, 6, 7, 8, 9, 15, 16, 17], [0, 1, 2, 3, 4, 5, 6, 7, 8, 9, 15, 16, 17, 18], [0, 1, 2, 3, 4, 5, 6, 7, 8, 9, 10, 11, 12, 13, 14, 15, 16, 17, 18, 19], [0, 1, 2, 3, 4, 5, 6, 7, 8, 9, 10, 11, 12, 13, 14, 15, 16, 17, 18, 19, 20], [0, 1, 2, 3, 4, 5, 6, 7, 8, 9, 10, 11, 12, 13, 14, 15, 16, 17, 18, 19, 20, 21]] [] (by kernel_rfl) (by kernel_rfl) (fun (ix_ : Nat) (v : Value) (G : GH) => match ix_ with | 0 => v = vi i | 1 => v = .slice A l.length ca | 2 => v = vi l.length | 3 => v = .bool (decide ((i : Int) = (l.length : Int))) | 4 => v = .bool (decide ((i : Int) = (l.length : Int))) | 5 => v = vi k | 6 => v = .slice B m.length cb | 7 => v = vi m.length | 8 => v = .bool (decide ((k : Int) < (m.length : Int))) | 9 => v = .bool (decide ((k : Int) < (m.length : Int))) | 10 => v = .slice B m.length cb | 11 => v = vi k | 12 => v = .pointer (some ⟨yb, yo + k * 2, none⟩) | 13 => v = .pointer (some ⟨yb, yo + k * 2 + 0, none⟩) | 14 => v = vi y.key | 15 => v = .slice A l.length ca | 16 => v = vi i | 17 => v = .pointer (some ⟨xb, xo + i * 2, none⟩) | 18 => v = .pointer (some ⟨xb, xo + i * 2 + 0, none⟩) | 19 => v = vi x.key | 20 => v = .bool (decide (y.key ≤ x.key)) | 21 => v = .bool (decide (y.key ≤ x.key)) | 22 => v = .bool (decide (y.key ≤ x.key)) | _ => True) (fun _ _ _ _ _ h => h) H ?_ ?_
        · clear H; refine (allI_cons ?_ (allI_cons ?_ (allI_cons ?_ (allI_cons ?_ (allI_cons ?_ (allI_cons ?_ (allI_cons ?_ (allI_cons ?_ (allI_cons ?_ (allI_cons ?_ (allI_cons ?_ (allI_cons ?_ (allI_cons ?_ (allI_cons ?_ (allI_cons ?_ (allI_cons ?_ (allI_cons ?_ (allI_cons ?_ (allI_cons ?_ (allI_cons ?_ (allI_cons ?_ (allI_cons ?_ (allI_cons ?_ allI_nil)))))))))))))))))))))))
          · refine opI [] rfl trivial (by kernel_rfl) (fun _ _ _ _ _ h => h) rfl rfl ?_; intro Sd_ a w G1 hG HT H fin; refine s_move H wn rfl rfl ?_; clear H; intro a H; exact fin H (fun _ _ h => h) (rfl)
          · refine opI [] rfl trivial (by kernel_rfl) (fun _ _ _ _ _ h => h) rfl rfl ?_; intro Sd_ a w G1 hG HT H fin; refine s_load ty25run H wn rfl (H.hp.gcell (gcell_mono hG (gcell_mono hGm3 hag))) rfl ?_; clear H; intro a H; exact fin H (fun _ _ h => h) (rfl)
          · refine opI [(1, 45, _)] rfl ⟨fun _ _ h => h, trivial⟩ (by kernel_rfl) (fun _ _ _ _ _ h => h) rfl rfl ?_; intro Sd_ a w G1 hG HT H fin; refine s_len un25run H wn rfl rfl ?_; clear H; intro a H; exact fin H (fun _ _ h => h) (rfl)
          · refine opI [(0, 44, _), (2, 46, _)] rfl ⟨fun _ _ h => h, fun _ _ h => h, trivial⟩ (by kernel_rfl) (fun _ _ _ _ _ h => h) rfl rfl ?_; intro Sd_ a w G1 hG HT H fin; refine s_cmp H wn rfl rfl rfl rfl ?_; clear H; intro a H; exact fin H (fun _ _ h => h) (rfl)
          · refine opI [(3, 47, _)] rfl ⟨fun _ _ h => h, trivial⟩ (by kernel_rfl) (fun _ _ _ _ _ h => h) rfl rfl ?_; intro Sd_ a w G1 hG HT H fin; refine s_move H wn rfl rfl ?_; clear H; intro a H; exact fin H (fun _ _ h => h) (rfl)
          · refine opI [(4, 48, _)] rfl ⟨fun _ _ h => h, trivial⟩ (by kernel_rfl) (fun _ _ _ _ _ h => h) rfl rfl ?_; intro Sd_ a w G1 hG HT H fin; refine s_move H (wg H rfl rfl (decide_eq_false m0)) rfl rfl ?_; clear H; intro a H; exact fin H (fun _ _ h => h) (rfl)
          · refine opI [(4, 48, _)] rfl ⟨fun _ _ h => h, trivial⟩ (by kernel_rfl) (fun _ _ _ _ _ h => h) rfl rfl ?_; intro Sd_ a w G1 hG HT H fin; refine s_load ty25run H (wg H rfl rfl (decide_eq_false m0)) rfl (H.hp.gcell (gcell_mono hG (gcell_mono hGm3 hbg))) rfl ?_; clear H; intro a H; exact fin H (fun _ _ h => h) (rfl)
          · refine opI [(6, 50, _), (4, 48, _)] rfl ⟨fun _ _ h => h, fun _ _ h => h, trivial⟩ (by kernel_rfl) (fun _ _ _ _ _ h => h) rfl rfl ?_; intro Sd_ a w G1 hG HT H fin; refine s_len un25run H (wg H rfl rfl (decide_eq_false m0)) rfl rfl ?_; clear H; intro a H; exact fin H (fun _ _ h => h) (rfl)
          · refine opI [(5, 49, _), (7, 51, _), (4, 48, _)] rfl ⟨fun _ _ h => h, fun _ _ h => h, fun _ _ h => h, trivial⟩ (by kernel_rfl) (fun _ _ _ _ _ h => h) rfl rfl ?_; intro Sd_ a w G1 hG HT H fin; refine s_cmp H (wg H rfl rfl (decide_eq_false m0)) rfl rfl rfl rfl ?_; clear H; intro a H; exact fin H (fun _ _ h => h) (rfl)
          · refine opI [(8, 52, _), (4, 48, _)] rfl ⟨fun _ _ h => h, fun _ _ h => h, trivial⟩ (by kernel_rfl) (fun _ _ _ _ _ h => h) rfl rfl ?_; intro Sd_ a w G1 hG HT H fin; refine s_move H (wg H rfl rfl (decide_eq_false m0)) rfl rfl ?_; clear H; intro a H; exact fin H (fun _ _ h => h) (rfl)
          · refine opI [(9, 53, _)] rfl ⟨fun _ _ h => h, trivial⟩ (by kernel_rfl) (fun _ _ _ _ _ h => h) rfl rfl ?_; intro Sd_ a w G1 hG HT H fin; refine s_load ty25run H (wg H rfl rfl (decide_eq_true m1)) rfl (H.hp.gcell (gcell_mono hG (gcell_mono hGm3 hbg))) rfl ?_; clear H; intro a H; exact fin H (fun _ _ h => h) (rfl)
          · refine opI [(9, 53, _)] rfl ⟨fun _ _ h => h, trivial⟩ (by kernel_rfl) (fun _ _ _ _ _ h => h) rfl rfl ?_; intro Sd_ a w G1 hG HT H fin; refine s_move H (wg H rfl rfl (decide_eq_true m1)) rfl rfl ?_; clear H; intro a H; exact fin H (fun _ _ h => h) (rfl)
          · refine opI [(10, 54, _), (11, 55, _), (9, 53, _)] rfl ⟨fun _ _ h => h, fun _ _ h => h, fun _ _ h => h, trivial⟩ (by kernel_rfl) (fun _ _ _ _ _ h => h) rfl rfl ?_; intro Sd_ a w G1 hG HT H fin; obtain ⟨rfl, -⟩ := hy (by omega); refine s_index un25run ty40run k H (wg H rfl rfl (decide_eq_true m1)) rfl rfl rfl (by omega) rfl ?_; clear H; intro a H; exact fin H (fun _ _ h => h) (rfl)
          · refine opI [(12, 56, _), (9, 53, _)] rfl ⟨fun _ _ h => h, fun _ _ h => h, trivial⟩ (by kernel_rfl) (fun _ _ _ _ _ h => h) rfl rfl ?_; intro Sd_ a w G1 hG HT H fin; refine s_field fd40_0prp H (wg H rfl rfl (decide_eq_true m1)) rfl rfl ?_; clear H; intro a H; exact fin H (fun _ _ h => h) (rfl)
          · refine opI [(13, 57, _), (9, 53, _)] rfl ⟨fun _ _ h => h, fun _ _ h => h, trivial⟩ (by kernel_rfl) (fun _ _ _ _ _ h => h) rfl rfl ?_; intro Sd_ a w G1 hG HT H fin; refine s_load ty3run H (wg H rfl rfl (decide_eq_true m1)) rfl (H.hp.gcell (gcell_mono hG (gcell_mono hGm3 (hy (by omega)).2.2.1))) rfl ?_; clear H; intro a H; exact fin H (fun _ _ h => h) (rfl)
          · refine opI [(9, 53, _)] rfl ⟨fun _ _ h => h, trivial⟩ (by kernel_rfl) (fun _ _ _ _ _ h => h) rfl rfl ?_; intro Sd_ a w G1 hG HT H fin; refine s_load ty25run H (wg H rfl rfl (decide_eq_true m1)) rfl (H.hp.gcell (gcell_mono hG (gcell_mono hGm3 hag))) rfl ?_; clear H; intro a H; exact fin H (fun _ _ h => h) (rfl)
          · refine opI [(9, 53, _)] rfl ⟨fun _ _ h => h, trivial⟩ (by kernel_rfl) (fun _ _ _ _ _ h => h) rfl rfl ?_; intro Sd_ a w G1 hG HT H fin; refine s_move H (wg H rfl rfl (decide_eq_true m1)) rfl rfl ?_; clear H; intro a H; exact fin H (fun _ _ h => h) (rfl)
          · refine opI [(15, 59, _), (16, 60, _), (9, 53, _)] rfl ⟨fun _ _ h => h, fun _ _ h => h, fun _ _ h => h, trivial⟩ (by kernel_rfl) (fun _ _ _ _ _ h => h) rfl rfl ?_; intro Sd_ a w G1 hG HT H fin; obtain ⟨rfl, -⟩ := hx (by omega); refine s_index un25run ty40run i H (wg H rfl rfl (decide_eq_true m1)) rfl rfl rfl (by omega) rfl ?_; clear H; intro a H; exact fin H (fun _ _ h => h) (rfl)
          · refine opI [(17, 61, _), (9, 53, _)] rfl ⟨fun _ _ h => h, fun _ _ h => h, trivial⟩ (by kernel_rfl) (fun _ _ _ _ _ h => h) rfl rfl ?_; intro Sd_ a w G1 hG HT H fin; refine s_field fd40_0prp H (wg H rfl rfl (decide_eq_true m1)) rfl rfl ?_; clear H; intro a H; exact fin H (fun _ _ h => h) (rfl)
          · refine opI [(18, 62, _), (9, 53, _)] rfl ⟨fun _ _ h => h, fun _ _ h => h, trivial⟩ (by kernel_rfl) (fun _ _ _ _ _ h => h) rfl rfl ?_; intro Sd_ a w G1 hG HT H fin; refine s_load ty3run H (wg H rfl rfl (decide_eq_true m1)) rfl (H.hp.gcell (gcell_mono hG (gcell_mono hGm3 (hx (by omega)).2.2.1))) rfl ?_; clear H; intro a H; exact fin H (fun _ _ h => h) (rfl)
          · refine opI [(14, 58, _), (19, 63, _), (9, 53, _)] rfl ⟨fun _ _ h => h, fun _ _ h => h, fun _ _ h => h, trivial⟩ (by kernel_rfl) (fun _ _ _ _ _ h => h) rfl rfl ?_; intro Sd_ a w G1 hG HT H fin; refine s_cmp H (wg H rfl rfl (decide_eq_true m1)) rfl rfl rfl rfl ?_; clear H; intro a H; exact fin H (fun _ _ h => h) (rfl)
          · refine opI [(9, 53, _), (20, 64, _), (4, 48, _)] rfl ⟨fun _ _ h => h, fun _ _ h => h, fun _ _ h => h, trivial⟩ (by kernel_rfl) (fun _ _ _ _ _ h => h) rfl rfl ?_; intro Sd_ a w G1 hG HT H fin; refine s_pick_t H (wg H rfl rfl (decide_eq_false m0)) rfl (decide_eq_true m1) rfl rfl ?_; clear H; intro a H; exact fin H (fun _ _ h => h) (rfl)
          refine opI [(4, 48, _), (21, 65, _)] rfl ⟨fun _ _ h => h, fun _ _ h => h, trivial⟩ (by kernel_rfl) (fun _ _ _ _ _ h => h) rfl rfl ?_; intro Sd_ a w G1 hG HT H fin; refine s_pick_f H wn rfl (decide_eq_false m0) rfl rfl ?_; clear H; intro a H; exact fin H (fun _ _ h => h) (rfl)
        clear H; intro a w G hGm5 H hv; obtain ⟨u66, hu66, hp66⟩ := hv 22 66 (by decide) rfl; obtain rfl : u66 = .bool (decide (y.key ≤ x.key)) := hp66; have H := H.addS hu66; clear hv; refine wl_nil ⟨rfl, ?_⟩; refine hK8 _ _ ?_; clear hK8; refine c_cond_f H rfl (decide_eq_false m2) ?_; refine c_skip ?_; refine hK7 _ _ ?_; clear hK7; refine c_seq (fun _ hK14 => ?_); refine c_seqR (fun _ hK15 => ?_); refine s_move H wn rfl rfl ?_; clear H; intro a H; refine s_neqnilp un211prm H wn rfl rfl ?_; clear H; intro a H; refine hK15 _ _ ?_; clear hK15; refine c_cond H rfl ?_ ?_
        · intro h71
          try have p71 := of_decide_eq_true h71
          refine c_region ?_; refine s_move H wn rfl rfl ?_; clear H; intro a H; refine s_add _ H wn rfl rfl rfl (by omega) (by omega) rfl ?_; clear H; intro a H; refine s_assign H wn rfl rfl ?_; clear H; intro a H; refine wl_nil ?_; refine hK14 _ _ ?_; clear hK14; refine c_seq (fun _ hK16 => ?_); refine c_seqR (fun _ hK17 => ?_); refine s_move H wn rfl rfl ?_; clear H; intro a H; refine s_neqnilp un211prm H wn rfl rfl ?_; clear H; intro a H; refine hK17 _ _ ?_; clear hK17; refine c_cond H rfl ?_ ?_
          · intro h75
            try have p75 := of_decide_eq_true h75
            cases h75
          intro h75
          try have p75 := of_decide_eq_false h75
          refine c_skip ?_; refine hK16 _ _ ?_; clear hK16; refine c_seq (fun _ hK18 => ?_); obtain ⟨f', rfl⟩ : ∃ f', f = f' + 1 := ⟨f - 1, by omega⟩; have hgm5 := fun b o (h : g b = some o) => hGm5 b o (hGm3 b o h)
          first
            | rw [prF_ab (hx (by omega)).2.1 (hy (by omega)).2.1 n2 m2] at hnow
            | rw [prF_aa (hx (by omega)).2.1 (hy (by omega)).2.1 n2 m2] at hnow
            | rw [prF_bb (hx (by omega)).2.1 (hy (by omega)).2.1 n2] at hnow
            | rw [prF_a (hx (by omega)).2.1 (by omega)] at hnow
            | rw [prF_b (by omega) (hy (by omega)).2.1] at hnow
          have hnow2 := hnow.up hJm hgm5; refine c_region ?_; (iterate 3 refine s_move H wn rfl rfl ?_; clear H; intro a H); refine s_callv (Li := []) (L := Lt) H wn rfl rfl (hcb j1 _ _ _ _ ⟨_, hnow2.head, _, _, rfl, by first | exact rfl | exact ⟨_, _, rfl, gcell_mono hgm5 (hx (by omega)).2.2.1, gcell_mono hgm5 (hx (by omega)).2.2.2⟩, by first | exact rfl | exact ⟨_, _, rfl, gcell_mono hgm5 (hy (by omega)).2.2.1, gcell_mono hgm5 (hy (by omega)).2.2.2⟩⟩ (fun b o h => hgm5 b o (hgm b o h)) hnow2.now (Hp.owns (Li := []) H.hp)) rfl ?_; clear H; rintro v81 G81 Lt81 a w ⟨b81, rfl, hb1, hb2⟩ hm81 H; refine s_not H wn rfl rfl ?_; clear H; intro a H; refine wl_nil ?_; refine hK18 _ _ ?_; clear hK18; refine c_cond H rfl ?_ ?_
          · intro h82
            try have p82 := of_decide_eq_true h82
            refine c_ret ?_; refine (leave0 H Tryz.results187 ?_).1
            first
              | exact H.hp.retD (L' := Lt81) (by repeat (first | exact List.Sublist.refl _ | apply List.Sublist.cons)) (.inr (hb2 (by simpa using h82)))
              | (rw [prF_end (by omega) (by omega)] at hnow
                 refine H.hp.retD (L' := Lt) (by repeat (first | exact List.Sublist.refl _ | apply List.Sublist.cons)) (.inl ?_); have h := hnow.len
                 simp only [List.length_nil, Nat.add_zero] at h
                 rw [← h]
                 exact hnow.now)
          intro h82
          try have p82 := of_decide_eq_false h82
          refine c_skip ?_; refine loop_end ((i + 1, k, f', j1 + 1, Lt81, G81)) (by exact (H).sub ⟨rfl, rfl, rfl, rfl, rfl, trivial⟩) ?_ ?_
          · (try dsimp only); exact ⟨by omega, by omega, by omega, fun b o h => hm81 b o (hgm5 b o (hgm b o h)), hnow2.step (hb1 (by simpa using h82))⟩
          first | omega | (dsimp only; omega)
        intro h71
        try have p71 := of_decide_eq_false h71
        cases h71
      skip; refine c_drawI (hmx) [[], [], [1], [0, 1, 2], [0, 1, 2, 3], [0, 1, 2, 3, 4], [0, 1, 2, 3, 4], [0, 1, 2, 3, 4, 6], [0, 1, 2, 3, 4, 5, 6, 7], [0, 1, 2, 3, 4, 5, 6, 7, 8], [0, 1, 2, 3, 4, 5, 6, 7, 8, 9], [0, 1, 2, 3, 4, 5, 6, 7, 8, 9], [0, 1, 2, 3, 4, 5, 6, 7, 8, 9, 10, 11], [0, 1, 2, 3, 4, 5, 6, 7, 8, 9, 10, 11, 12], [0, 1, 2, 3, 4, 5, 6, 7, 8, 9, 10, 11, 12, 13], [0, 1, 2, 3, 4, 5, 6, 7, 8, 9], [0, 1, 2, 3, 4, 5, 6, 7, 8, 9], [0, 1, 2, 3, 4, 5, 6, 7, 8, 9, 15, 16], [0, 1, 2, 3, 4, 5, 6, 7, 8, 9, 15, 16, 17], [0, 1, 2, 3, 4, 5, 6, 7, 8, 9, 15, 16, 17, 18], [0, 1, 2, 3, 4, 5, 6, 7, 8, 9, 10, 11, 12, 13, 14, 15, 16, 17, 18, 19], [0, 1, 2, 3, 4, 5, 6, 7, 8, 9, 10, 11, 12, 13, 14, 15, 16, 17, 18, 19, 20], [0, 1, 2, 3, 4, 5, 6, 7, 8, 9, 10, 11, 12, 13, 14, 15, 16, 17, 18, 19, 20, 21]] [] (by kernel_rfl) (by kernel_rfl) (fun (ix_ : Nat) (v : Value) (G : GH) => match ix_ with | 0 => v = vi k | 1 => v = .slice B m.length cb | 2 => v = vi m.length | 3 => v = .bool (decide ((k : Int) = (m.length : Int))) | 4 => v = .bool (decide ((k : Int) = (m.length : Int))) | 5 => v = vi i | 6 => v = .slice A l.length ca | 7 => v = vi l.length | 8 => v = .bool (decide ((i : Int) < (l.length : Int))) | 9 => v = .bool (decide ((i : Int) < (l.length : Int))) | 10 => v = .slice A l.length ca | 11 => v = vi i | 12 => v = .pointer (some ⟨xb, xo + i * 2, none⟩) | 13 => v = .pointer (some ⟨xb, xo + i * 2 + 0, none⟩) | 14 => v = vi x.key | 15 => v = .slice B m.length cb | 16 => v = vi k | 17 => v = .pointer (some ⟨yb, yo + k * 2, none⟩) | 18 => v = .pointer (some ⟨yb, yo + k * 2 + 0, none⟩) | 19 => v = vi y.key | 20 => v = .bool (decide (x.key ≤ y.key)) | 21 => v = .bool (decide (x.key ≤ y.key)) | 22 => v = .bool (decide (x.key ≤ y.key)) | _ => True) (fun _ _ _ _ _ h => h) H ?_ ?_
      · clear H; refine (allI_cons ?_ (allI_cons ?_ (allI_cons ?_ (allI_cons ?_ (allI_cons ?_ (allI_cons ?_ (allI_cons ?_ (allI_cons ?_ (allI_cons ?_ (allI_cons ?_ (allI_cons ?_ (allI_cons ?_ (allI_cons ?_ (allI_cons ?_ (allI_cons ?_ (allI_cons ?_ (allI_cons ?_ (allI_cons ?_ (allI_cons ?_ (allI_cons ?_ (allI_cons ?_ (allI_cons ?_ (allI_cons ?_ allI_nil)))))))))))))))))))))))
        · refine opI [] rfl trivial (by kernel_rfl) (fun _ _ _ _ _ h => h) rfl rfl ?_; intro Sd_ a w G1 hG HT H fin; refine s_move H wn rfl rfl ?_; clear H; intro a H; exact fin H (fun _ _ h => h) (rfl)
        · refine opI [] rfl trivial (by kernel_rfl) (fun _ _ _ _ _ h => h) rfl rfl ?_; intro Sd_ a w G1 hG HT H fin; refine s_load ty25run H wn rfl (H.hp.gcell (gcell_mono hG hbg)) rfl ?_; clear H; intro a H; exact fin H (fun _ _ h => h) (rfl)
        · refine opI [(1, 19, _)] rfl ⟨fun _ _ h => h, trivial⟩ (by kernel_rfl) (fun _ _ _ _ _ h => h) rfl rfl ?_; intro Sd_ a w G1 hG HT H fin; refine s_len un25run H wn rfl rfl ?_; clear H; intro a H; exact fin H (fun _ _ h => h) (rfl)
        · refine opI [(0, 18, _), (2, 20, _)] rfl ⟨fun _ _ h => h, fun _ _ h => h, trivial⟩ (by kernel_rfl) (fun _ _ _ _ _ h => h) rfl rfl ?_; intro Sd_ a w G1 hG HT H fin; refine s_cmp H wn rfl rfl rfl rfl ?_; clear H; intro a H; exact fin H (fun _ _ h => h) (rfl)
        · refine opI [(3, 21, _)] rfl ⟨fun _ _ h => h, trivial⟩ (by kernel_rfl) (fun _ _ _ _ _ h => h) rfl rfl ?_; intro Sd_ a w G1 hG HT H fin; refine s_move H wn rfl rfl ?_; clear H; intro a H; exact fin H (fun _ _ h => h) (rfl)
        · refine opI [(4, 22, _)] rfl ⟨fun _ _ h => h, trivial⟩ (by kernel_rfl) (fun _ _ _ _ _ h => h) rfl rfl ?_; intro Sd_ a w G1 hG HT H fin; refine s_move H (wg H rfl rfl (decide_eq_false n0)) rfl rfl ?_; clear H; intro a H; exact fin H (fun _ _ h => h) (rfl)
        · refine opI [(4, 22, _)] rfl ⟨fun _ _ h => h, trivial⟩ (by kernel_rfl) (fun _ _ _ _ _ h => h) rfl rfl ?_; intro Sd_ a w G1 hG HT H fin; refine s_load ty25run H (wg H rfl rfl (decide_eq_false n0)) rfl (H.hp.gcell (gcell_mono hG hag)) rfl ?_; clear H; intro a H; exact fin H (fun _ _ h => h) (rfl)
        · refine opI [(6, 24, _), (4, 22, _)] rfl ⟨fun _ _ h => h, fun _ _ h => h, trivial⟩ (by kernel_rfl) (fun _ _ _ _ _ h => h) rfl rfl ?_; intro Sd_ a w G1 hG HT H fin; refine s_len un25run H (wg H rfl rfl (decide_eq_false n0)) rfl rfl ?_; clear H; intro a H; exact fin H (fun _ _ h => h) (rfl)
        · refine opI [(5, 23, _), (7, 25, _), (4, 22, _)] rfl ⟨fun _ _ h => h, fun _ _ h => h, fun _ _ h => h, trivial⟩ (by kernel_rfl) (fun _ _ _ _ _ h => h) rfl rfl ?_; intro Sd_ a w G1 hG HT H fin; refine s_cmp H (wg H rfl rfl (decide_eq_false n0)) rfl rfl rfl rfl ?_; clear H; intro a H; exact fin H (fun _ _ h => h) (rfl)
        · refine opI [(8, 26, _), (4, 22, _)] rfl ⟨fun _ _ h => h, fun _ _ h => h, trivial⟩ (by kernel_rfl) (fun _ _ _ _ _ h => h) rfl rfl ?_; intro Sd_ a w G1 hG HT H fin; refine s_move H (wg H rfl rfl (decide_eq_false n0)) rfl rfl ?_; clear H; intro a H; exact fin H (fun _ _ h => h) (rfl)
        · refine opI [(9, 27, _)] rfl ⟨fun _ _ h => h, trivial⟩ (by kernel_rfl) (fun _ _ _ _ _ h => h) rfl rfl ?_; intro Sd_ a w G1 hG HT H fin; refine s_load ty25run H (wg H rfl rfl (decide_eq_true n1)) rfl (H.hp.gcell (gcell_mono hG hag)) rfl ?_; clear H; intro a H; exact fin H (fun _ _ h => h) (rfl)
        · refine opI [(9, 27, _)] rfl ⟨fun _ _ h => h, trivial⟩ (by kernel_rfl) (fun _ _ _ _ _ h => h) rfl rfl ?_; intro Sd_ a w G1 hG HT H fin; refine s_move H (wg H rfl rfl (decide_eq_true n1)) rfl rfl ?_; clear H; intro a H; exact fin H (fun _ _ h => h) (rfl)
        · refine opI [(10, 28, _), (11, 29, _), (9, 27, _)] rfl ⟨fun _ _ h => h, fun _ _ h => h, fun _ _ h => h, trivial⟩ (by kernel_rfl) (fun _ _ _ _ _ h => h) rfl rfl ?_; intro Sd_ a w G1 hG HT H fin; obtain ⟨rfl, -⟩ := hx (by omega); refine s_index un25run ty40run i H (wg H rfl rfl (decide_eq_true n1)) rfl rfl rfl (by omega) rfl ?_; clear H; intro a H; exact fin H (fun _ _ h => h) (rfl)
        · refine opI [(12, 30, _), (9, 27, _)] rfl ⟨fun _ _ h => h, fun _ _ h => h, trivial⟩ (by kernel_rfl) (fun _ _ _ _ _ h => h) rfl rfl ?_; intro Sd_ a w G1 hG HT H fin; refine s_field fd40_0prp H (wg H rfl rfl (decide_eq_true n1)) rfl rfl ?_; clear H; intro a H; exact fin H (fun _ _ h => h) (rfl)
        · refine opI [(13, 31, _), (9, 27, _)] rfl ⟨fun _ _ h => h, fun _ _ h => h, trivial⟩ (by kernel_rfl) (fun _ _ _ _ _ h => h) rfl rfl ?_; intro Sd_ a w G1 hG HT H fin; refine s_load ty3run H (wg H rfl rfl (decide_eq_true n1)) rfl (H.hp.gcell (gcell_mono hG (hx (by omega)).2.2.1)) rfl ?_; clear H; intro a H; exact fin H (fun _ _ h => h) (rfl)
        · refine opI [(9, 27, _)] rfl ⟨fun _ _ h => h, trivial⟩ (by kernel_rfl) (fun _ _ _ _ _ h => h) rfl rfl ?_; intro Sd_ a w G1 hG HT H fin; refine s_load ty25run H (wg H rfl rfl (decide_eq_true n1)) rfl (H.hp.gcell (gcell_mono hG hbg)) rfl ?_; clear H; intro a H; exact fin H (fun _ _ h => h) (rfl)
        · refine opI [(9, 27, _)] rfl ⟨fun _ _ h => h, trivial⟩ (by kernel_rfl) (fun _ _ _ _ _ h => h) rfl rfl ?_; intro Sd_ a w G1 hG HT H fin; refine s_move H (wg H rfl rfl (decide_eq_true n1)) rfl rfl ?_; clear H; intro a H; exact fin H (fun _ _ h => h) (rfl)
        · refine opI [(15, 33, _), (16, 34, _), (9, 27, _)] rfl ⟨fun _ _ h => h, fun _ _ h => h, fun _ _ h => h, trivial⟩ (by kernel_rfl) (fun _ _ _ _ _ h => h) rfl rfl ?_; intro Sd_ a w G1 hG HT H fin; obtain ⟨rfl, -⟩ := hy (by omega); refine s_index un25run ty40run k H (wg H rfl rfl (decide_eq_true n1)) rfl rfl rfl (by omega) rfl ?_; clear H; intro a H; exact fin H (fun _ _ h => h) (rfl)
        · refine opI [(17, 35, _), (9, 27, _)] rfl ⟨fun _ _ h => h, fun _ _ h => h, trivial⟩ (by kernel_rfl) (fun _ _ _ _ _ h => h) rfl rfl ?_; intro Sd_ a w G1 hG HT H fin; refine s_field fd40_0prp H (wg H rfl rfl (decide_eq_true n1)) rfl rfl ?_; clear H; intro a H; exact fin H (fun _ _ h => h) (rfl)
        · refine opI [(18, 36, _), (9, 27, _)] rfl ⟨fun _ _ h => h, fun _ _ h => h, trivial⟩ (by kernel_rfl) (fun _ _ _ _ _ h => h) rfl rfl ?_; intro Sd_ a w G1 hG HT H fin; refine s_load ty3run H (wg H rfl rfl (decide_eq_true n1)) rfl (H.hp.gcell (gcell_mono hG (hy (by omega)).2.2.1)) rfl ?_; clear H; intro a H; exact fin H (fun _ _ h => h) (rfl)
        · refine opI [(14, 32, _), (19, 37, _), (9, 27, _)] rfl ⟨fun _ _ h => h, fun _ _ h => h, fun _ _ h => h, trivial⟩ (by kernel_rfl) (fun _ _ _ _ _ h => h) rfl rfl ?_; intro Sd_ a w G1 hG HT H fin; refine s_cmp H (wg H rfl rfl (decide_eq_true n1)) rfl rfl rfl rfl ?_; clear H; intro a H; exact fin H (fun _ _ h => h) (rfl)
        · refine opI [(9, 27, _), (20, 38, _), (4, 22, _)] rfl ⟨fun _ _ h => h, fun _ _ h => h, fun _ _ h => h, trivial⟩ (by kernel_rfl) (fun _ _ _ _ _ h => h) rfl rfl ?_; intro Sd_ a w G1 hG HT H fin; refine s_pick_t H (wg H rfl rfl (decide_eq_false n0)) rfl (decide_eq_true n1) rfl rfl ?_; clear H; intro a H; exact fin H (fun _ _ h => h) (rfl)
        refine opI [(4, 22, _), (21, 39, _)] rfl ⟨fun _ _ h => h, fun _ _ h => h, trivial⟩ (by kernel_rfl) (fun _ _ _ _ _ h => h) rfl rfl ?_; intro Sd_ a w G1 hG HT H fin; refine s_pick_f H wn rfl (decide_eq_false n0) rfl rfl ?_; clear H; intro a H; exact fin H (fun _ _ h => h) (rfl)
      clear H; intro a w G hGm3 H hv; obtain ⟨u40, hu40, hp40⟩ := hv 22 40 (by decide) rfl; obtain rfl : u40 = .bool (decide (x.key ≤ y.key)) := hp40; have H := H.addS hu40; clear hv; refine wl_nil ⟨rfl, ?_⟩; refine hK6 _ _ ?_; clear hK6; refine c_cond_f H rfl (decide_eq_false n2) ?_; refine c_skip ?_; refine hK5 _ _ ?_; clear hK5; refine c_seq (fun _ hK19 => ?_); refine c_seq (fun _ hK20 => ?_)
      have m0 : ¬ (i : Int) = (l.length : Int) := by omega
      have m1 : (k : Int) < (m.length : Int) := by omega
      have m2 : y.key ≤ x.key := by omega
      refine c_drawI (hmx) [[], [], [1], [0, 1, 2], [0, 1, 2, 3], [0, 1, 2, 3, 4], [0, 1, 2, 3, 4], [0, 1, 2, 3, 4, 6], [0, 1, 2, 3, 4, 5, 6, 7], [0, 1, 2, 3, 4, 5, 6, 7, 8], [0, 1, 2, 3, 4, 5, 6, 7, 8, 9], [0, 1, 2, 3, 4, 5, 6, 7, 8, 9], [0, 1, 2, 3, 4, 5, 6, 7, 8, 9, 10, 11], [0, 1, 2, 3, 4, 5, 6, 7, 8, 9, 10, 11, 12], [0, 1, 2, 3, 4, 5, 6, 7, 8, 9, 10, 11, 12, 13], [0, 1, 2, 3, 4, 5, 6, 7, 8, 9], [0, 1, 2, 3, 4, 5, 6, 7, 8, 9], [0, 1, 2, 3, 4, 5, 6, 7, 8, 9, 15, 16], [0, 1, 2, 3, 4, 5, 6, 7, 8, 9, 15, 16, 17], [0, 1, 2, 3, 4, 5, 6, 7, 8, 9, 15, 16, 17, 18], [0, 1, 2, 3, 4, 5, 6, 7, 8, 9, 10, 11, 12, 13, 14, 15, 16, 17, 18, 19], [0, 1, 2, 3, 4, 5, 6, 7, 8, 9, 10, 11, 12, 13, 14, 15, 16, 17, 18, 19, 20], [0, 1, 2, 3, 4, 5, 6, 7, 8, 9, 10, 11, 12, 13, 14, 15, 16, 17, 18, 19, 20, 21]] [] (by kernel_rfl) (by kernel_rfl) (fun (ix_ : Nat) (v : Value) (G : GH) => match ix_ with | 0 => v = vi i | 1 => v = .slice A l.length ca | 2 => v = vi l.length | 3 => v = .bool (decide ((i : Int) = (l.length : Int))) | 4 => v = .bool (decide ((i : Int) = (l.length : Int))) | 5 => v = vi k | 6 => v = .slice B m.length cb | 7 => v = vi m.length | 8 => v = .bool (decide ((k : Int) < (m.length : Int))) | 9 => v = .bool (decide ((k : Int) < (m.length : Int))) | 10 => v = .slice B m.length cb | 11 => v = vi k | 12 => v = .pointer (some ⟨yb, yo + k * 2, none⟩) | 13 => v = .pointer (some ⟨yb, yo + k * 2 + 0, none⟩) | 14 => v = vi y.key | 15 => v = .slice A l.length ca | 16 => v = vi i | 17 => v = .pointer (some ⟨xb, xo + i * 2, none⟩) | 18 => v = .pointer (some ⟨xb, xo + i * 2 + 0, none⟩) | 19 => v = vi x.key | 20 => v = .bool (decide (y.key ≤ x.key)) | 21 => v = .bool (decide (y.key ≤ x.key)) | 22 => v = .bool (decide (y.key ≤ x.key)) | _ => True) (fun _ _ _ _ _ h => h) H ?_ ?_
      · clear H; refine (allI_cons ?_ (allI_cons ?_ (allI_cons ?_ (allI_cons ?_ (allI_cons ?_ (allI_cons ?_ (allI_cons ?_ (allI_cons ?_ (allI_cons ?_ (allI_cons ?_ (allI_cons ?_ (allI_cons ?_ (allI_cons ?_ (allI_cons ?_ (allI_cons ?_ (allI_cons ?_ (allI_cons ?_ (allI_cons ?_ (allI_cons ?_ (allI_cons ?_ (allI_cons ?_ (allI_cons ?_ (allI_cons ?_ allI_nil)))))))))))))))))))))))
        · refine opI [] rfl trivial (by kernel_rfl) (fun _ _ _ _ _ h => h) rfl rfl ?_; intro Sd_ a w G1 hG HT H fin; refine s_move H wn rfl rfl ?_; clear H; intro a H; exact fin H (fun _ _ h => h) (rfl)
        · refine opI [] rfl trivial (by kernel_rfl) (fun _ _ _ _ _ h => h) rfl rfl ?_; intro Sd_ a w G1 hG HT H fin; refine s_load ty25run H wn rfl (H.hp.gcell (gcell_mono hG (gcell_mono hGm3 hag))) rfl ?_; clear H; intro a H; exact fin H (fun _ _ h => h) (rfl)
        · refine opI [(1, 45, _)] rfl ⟨fun _ _ h => h, trivial⟩ (by kernel_rfl) (fun _ _ _ _ _ h => h) rfl rfl ?_; intro Sd_ a w G1 hG HT H fin; refine s_len un25run H wn rfl rfl ?_; clear H; intro a H; exact fin H (fun _ _ h => h) (rfl)
        · refine opI [(0, 44, _), (2, 46, _)] rfl ⟨fun _ _ h => h, fun _ _ h => h, trivial⟩ (by kernel_rfl) (fun _ _ _ _ _ h => h) rfl rfl ?_; intro Sd_ a w G1 hG HT H fin; refine s_cmp H wn rfl rfl rfl rfl ?_; clear H; intro a H; exact fin H (fun _ _ h => h) (rfl)
        · refine opI [(3, 47, _)] rfl ⟨fun _ _ h => h, trivial⟩ (by kernel_rfl) (fun _ _ _ _ _ h => h) rfl rfl ?_; intro Sd_ a w G1 hG HT H fin; refine s_move H wn rfl rfl ?_; clear H; intro a H; exact fin H (fun _ _ h => h) (rfl)
        · refine opI [(4, 48, _)] rfl ⟨fun _ _ h => h, trivial⟩ (by kernel_rfl) (fun _ _ _ _ _ h => h) rfl rfl ?_; intro Sd_ a w G1 hG HT H fin; refine s_move H (wg H rfl rfl (decide_eq_false m0)) rfl rfl ?_; clear H; intro a H; exact fin H (fun _ _ h => h) (rfl)
        · refine opI [(4, 48, _)] rfl ⟨fun _ _ h => h, trivial⟩ (by kernel_rfl) (fun _ _ _ _ _ h => h) rfl rfl ?_; intro Sd_ a w G1 hG HT H fin; refine s_load ty25run H (wg H rfl rfl (decide_eq_false m0)) rfl (H.hp.gcell (gcell_mono hG (gcell_mono hGm3 hbg))) rfl ?_; clear H; intro a H; exact fin H (fun _ _ h => h) (rfl)
        · refine opI [(6, 50, _), (4, 48, _)] rfl ⟨fun _ _ h => h, fun _ _ h => h, trivial⟩ (by kernel_rfl) (fun _ _ _ _ _ h => h) rfl rfl ?_; intro Sd_ a w G1 hG HT H fin; refine s_len un25run H (wg H rfl rfl (decide_eq_false m0)) rfl rfl ?_; clear H; intro a H; exact fin H (fun _ _ h => h) (rfl)
        · refine opI [(5, 49, _), (7, 51, _), (4, 48, _)] rfl ⟨fun _ _ h => h, fun _ _ h => h, fun _ _ h => h, trivial⟩ (by kernel_rfl) (fun _ _ _ _ _ h => h) rfl rfl ?_; intro Sd_ a w G1 hG HT H fin; refine s_cmp H (wg H rfl rfl (decide_eq_false m0)) rfl rfl rfl rfl ?_; clear H; intro a H; exact fin H (fun _ _ h => h) (rfl)
        · refine opI [(8, 52, _), (4, 48, _)] rfl ⟨fun _ _ h => h, fun _ _ h => h, trivial⟩ (by kernel_rfl) (fun _ _ _ _ _ h => h) rfl rfl ?_; intro Sd_ a w G1 hG HT H fin; refine s_move H (wg H rfl rfl (decide_eq_false m0)) rfl rfl ?_; clear H; intro a H; exact fin H (fun _ _ h => h) (rfl)
        · refine opI [(9, 53, _)] rfl ⟨fun _ _ h => h, trivial⟩ (by kernel_rfl) (fun _ _ _ _ _ h => h) rfl rfl ?_; intro Sd_ a w G1 hG HT H fin; refine s_load ty25run H (wg H rfl rfl (decide_eq_true m1)) rfl (H.hp.gcell (gcell_mono hG (gcell_mono hGm3 hbg))) rfl ?_; clear H; intro a H; exact fin H (fun _ _ h => h) (rfl)
        · refine opI [(9, 53, _)] rfl ⟨fun _ _ h => h, trivial⟩ (by kernel_rfl) (fun _ _ _ _ _ h => h) rfl rfl ?_; intro Sd_ a w G1 hG HT H fin; refine s_move H (wg H rfl rfl (decide_eq_true m1)) rfl rfl ?_; clear H; intro a H; exact fin H (fun _ _ h => h) (rfl)
        · refine opI [(10, 54, _), (11, 55, _), (9, 53, _)] rfl ⟨fun _ _ h => h, fun _ _ h => h, fun _ _ h => h, trivial⟩ (by kernel_rfl) (fun _ _ _ _ _ h => h) rfl rfl ?_; intro Sd_ a w G1 hG HT H fin; obtain ⟨rfl, -⟩ := hy (by omega); refine s_index un25run ty40run k H (wg H rfl rfl (decide_eq_true m1)) rfl rfl rfl (by omega) rfl ?_; clear H; intro a H; exact fin H (fun _ _ h => h) (rfl)
        · refine opI [(12, 56, _), (9, 53, _)] rfl ⟨fun _ _ h => h, fun _ _ h => h, trivial⟩ (by kernel_rfl) (fun _ _ _ _ _ h => h) rfl rfl ?_; intro Sd_ a w G1 hG HT H fin; refine s_field fd40_0prp H (wg H rfl rfl (decide_eq_true m1)) rfl rfl ?_; clear H; intro a H; exact fin H (fun _ _ h => h) (rfl)
        · refine opI [(13, 57, _), (9, 53, _)] rfl ⟨fun _ _ h => h, fun _ _ h => h, trivial⟩ (by kernel_rfl) (fun _ _ _ _ _ h => h) rfl rfl ?_; intro Sd_ a w G1 hG HT H fin; refine s_load ty3run H (wg H rfl rfl (decide_eq_true m1)) rfl (H.hp.gcell (gcell_mono hG (gcell_mono hGm3 (hy (by omega)).2.2.1))) rfl ?_; clear H; intro a H; exact fin H (fun _ _ h => h) (rfl)
        · refine opI [(9, 53, _)] rfl ⟨fun _ _ h => h, trivial⟩ (by kernel_rfl) (fun _ _ _ _ _ h => h) rfl rfl ?_; intro Sd_ a w G1 hG HT H fin; refine s_load ty25run H (wg H rfl rfl (decide_eq_true m1)) rfl (H.hp.gcell (gcell_mono hG (gcell_mono hGm3 hag))) rfl ?_; clear H; intro a H; exact fin H (fun _ _ h => h) (rfl)
        · refine opI [(9, 53, _)] rfl ⟨fun _ _ h => h, trivial⟩ (by kernel_rfl) (fun _ _ _ _ _ h => h) rfl rfl ?_; intro Sd_ a w G1 hG HT H fin; refine s_move H (wg H rfl rfl (decide_eq_true m1)) rfl rfl ?_; clear H; intro a H; exact fin H (fun _ _ h => h) (rfl)
        · refine opI [(15, 59, _), (16, 60, _), (9, 53, _)] rfl ⟨fun _ _ h => h, fun _ _ h => h, fun _ _ h => h, trivial⟩ (by kernel_rfl) (fun _ _ _ _ _ h => h) rfl rfl ?_; intro Sd_ a w G1 hG HT H fin; obtain ⟨rfl, -⟩ := hx (by omega); refine s_index un25run ty40run i H (wg H rfl rfl (decide_eq_true m1)) rfl rfl rfl (by omega) rfl ?_; clear H; intro a H; exact fin H (fun _ _ h => h) (rfl)
        · refine opI [(17, 61, _), (9, 53, _)] rfl ⟨fun _ _ h => h, fun _ _ h => h, trivial⟩ (by kernel_rfl) (fun _ _ _ _ _ h => h) rfl rfl ?_; intro Sd_ a w G1 hG HT H fin; refine s_field fd40_0prp H (wg H rfl rfl (decide_eq_true m1)) rfl rfl ?_; clear H; intro a H; exact fin H (fun _ _ h => h) (rfl)
        · refine opI [(18, 62, _), (9, 53, _)] rfl ⟨fun _ _ h => h, fun _ _ h => h, trivial⟩ (by kernel_rfl) (fun _ _ _ _ _ h => h) rfl rfl ?_; intro Sd_ a w G1 hG HT H fin; refine s_load ty3run H (wg H rfl rfl (decide_eq_true m1)) rfl (H.hp.gcell (gcell_mono hG (gcell_mono hGm3 (hx (by omega)).2.2.1))) rfl ?_; clear H; intro a H; exact fin H (fun _ _ h => h) (rfl)
        · refine opI [(14, 58, _), (19, 63, _), (9, 53, _)] rfl ⟨fun _ _ h => h, fun _ _ h => h, fun _ _ h => h, trivial⟩ (by kernel_rfl) (fun _ _ _ _ _ h => h) rfl rfl ?_; intro Sd_ a w G1 hG HT H fin; refine s_cmp H (wg H rfl rfl (decide_eq_true m1)) rfl rfl rfl rfl ?_; clear H; intro a H; exact fin H (fun _ _ h => h) (rfl)
        · refine opI [(9, 53, _), (20, 64, _), (4, 48, _)] rfl ⟨fun _ _ h => h, fun _ _ h => h, fun _ _ h => h, trivial⟩ (by kernel_rfl) (fun _ _ _ _ _ h => h) rfl rfl ?_; intro Sd_ a w G1 hG HT H fin; refine s_pick_t H (wg H rfl rfl (decide_eq_false m0)) rfl (decide_eq_true m1) rfl rfl ?_; clear H; intro a H; exact fin H (fun _ _ h => h) (rfl)
        refine opI [(4, 48, _), (21, 65, _)] rfl ⟨fun _ _ h => h, fun _ _ h => h, trivial⟩ (by kernel_rfl) (fun _ _ _ _ _ h => h) rfl rfl ?_; intro Sd_ a w G1 hG HT H fin; refine s_pick_f H wn rfl (decide_eq_false m0) rfl rfl ?_; clear H; intro a H; exact fin H (fun _ _ h => h) (rfl)
      clear H; intro a w G hGm5 H hv; obtain ⟨u66, hu66, hp66⟩ := hv 22 66 (by decide) rfl; obtain rfl : u66 = .bool (decide (y.key ≤ x.key)) := hp66; have H := H.addS hu66; clear hv; refine wl_nil ⟨rfl, ?_⟩; refine hK20 _ _ ?_; clear hK20; refine c_cond_t H rfl (decide_eq_true m2) ?_; refine c_region ?_; refine s_load ty25run H wn rfl (H.hp.gcell (gcell_mono hGm5 (gcell_mono hGm3 hbg))) rfl ?_; clear H; intro a H; rw [(hy (by omega)).1] at H; refine s_move H wn rfl rfl ?_; clear H; intro a H; refine s_index un25run ty40run k H wn rfl rfl rfl (by omega) rfl ?_; clear H; intro a H; refine s_assign H wn rfl rfl ?_; clear H; intro a H; refine wl_nil ?_; refine hK19 _ _ ?_; clear hK19; refine c_seq (fun _ hK21 => ?_); refine c_seqR (fun _ hK22 => ?_); refine s_move H wn rfl rfl ?_; clear H; intro a H; refine s_neqnilp un211prm H wn rfl rfl ?_; clear H; intro a H; refine hK22 _ _ ?_; clear hK22; refine c_cond H rfl ?_ ?_
      · intro h71
        try have p71 := of_decide_eq_true h71
        cases h71
      intro h71
      try have p71 := of_decide_eq_false h71
      refine c_skip ?_; refine hK21 _ _ ?_; clear hK21; refine c_seq (fun _ hK23 => ?_); refine c_seqR (fun _ hK24 => ?_); refine s_move H wn rfl rfl ?_; clear H; intro a H; refine s_neqnilp un211prm H wn rfl rfl ?_; clear H; intro a H; refine hK24 _ _ ?_; clear hK24; refine c_cond H rfl ?_ ?_
      · intro h75
        try have p75 := of_decide_eq_true h75
        refine c_region ?_; refine s_move H wn rfl rfl ?_; clear H; intro a H; refine s_add _ H wn rfl rfl rfl (by omega) (by omega) rfl ?_; clear H; intro a H; refine s_assign H wn rfl rfl ?_; clear H; intro a H; refine wl_nil ?_; refine hK23 _ _ ?_; clear hK23; refine c_seq (fun _ hK25 => ?_); obtain ⟨f', rfl⟩ : ∃ f', f = f' + 1 := ⟨f - 1, by omega⟩; have hgm5 := fun b o (h : g b = some o) => hGm5 b o (hGm3 b o h)
        first
          | rw [prF_ab (hx (by omega)).2.1 (hy (by omega)).2.1 n2 m2] at hnow
          | rw [prF_aa (hx (by omega)).2.1 (hy (by omega)).2.1 n2 m2] at hnow
          | rw [prF_bb (hx (by omega)).2.1 (hy (by omega)).2.1 n2] at hnow
          | rw [prF_a (hx (by omega)).2.1 (by omega)] at hnow
          | rw [prF_b (by omega) (hy (by omega)).2.1] at hnow
        have hnow2 := hnow.up hJm hgm5; refine c_region ?_; (iterate 3 refine s_move H wn rfl rfl ?_; clear H; intro a H); refine s_callv (Li := []) (L := Lt) H wn rfl rfl (hcb j1 _ _ _ _ ⟨_, hnow2.head, _, _, rfl, by first | exact rfl | exact ⟨_, _, rfl, gcell_mono hgm5 (hx (by omega)).2.2.1, gcell_mono hgm5 (hx (by omega)).2.2.2⟩, by first | exact rfl | exact ⟨_, _, rfl, gcell_mono hgm5 (hy (by omega)).2.2.1, gcell_mono hgm5 (hy (by omega)).2.2.2⟩⟩ (fun b o h => hgm5 b o (hgm b o h)) hnow2.now (Hp.owns (Li := []) H.hp)) rfl ?_; clear H; rintro v81 G81 Lt81 a w ⟨b81, rfl, hb1, hb2⟩ hm81 H; refine s_not H wn rfl rfl ?_; clear H; intro a H; refine wl_nil ?_; refine hK25 _ _ ?_; clear hK25; refine c_cond H rfl ?_ ?_
        · intro h82
          try have p82 := of_decide_eq_true h82
          refine c_ret ?_; refine (leave0 H Tryz.results187 ?_).1
          first
            | exact H.hp.retD (L' := Lt81) (by repeat (first | exact List.Sublist.refl _ | apply List.Sublist.cons)) (.inr (hb2 (by simpa using h82)))
            | (rw [prF_end (by omega) (by omega)] at hnow
               refine H.hp.retD (L' := Lt) (by repeat (first | exact List.Sublist.refl _ | apply List.Sublist.cons)) (.inl ?_); have h := hnow.len
               simp only [List.length_nil, Nat.add_zero] at h
               rw [← h]
               exact hnow.now)
        intro h82
        try have p82 := of_decide_eq_false h82
        refine c_skip ?_; refine loop_end ((i, k + 1, f', j1 + 1, Lt81, G81)) (by exact (H).sub ⟨rfl, rfl, rfl, rfl, rfl, trivial⟩) ?_ ?_
        · (try dsimp only); exact ⟨by omega, by omega, by omega, fun b o h => hm81 b o (hgm5 b o (hgm b o h)), hnow2.step (hb1 (by simpa using h82))⟩
        first | omega | (dsimp only; omega)
      intro h75
      try have p75 := of_decide_eq_false h75
      cases h75
    skip; refine c_drawI (hmx) [[], [], [1], [0, 1, 2], [0, 1, 2, 3], [0, 1, 2, 3, 4], [0, 1, 2, 3, 4], [0, 1, 2, 3, 4, 6], [0, 1, 2, 3, 4, 5, 6, 7], [0, 1, 2, 3, 4, 5, 6, 7, 8], [0, 1, 2, 3, 4, 5, 6, 7, 8, 9], [0, 1, 2, 3, 4, 5, 6, 7, 8, 9], [0, 1, 2, 3, 4, 5, 6, 7, 8, 9, 10, 11], [0, 1, 2, 3, 4, 5, 6, 7, 8, 9, 10, 11, 12], [0, 1, 2, 3, 4, 5, 6, 7, 8, 9, 10, 11, 12, 13], [0, 1, 2, 3, 4, 5, 6, 7, 8, 9], [0, 1, 2, 3, 4, 5, 6, 7, 8, 9], [0, 1, 2, 3, 4, 5, 6, 7, 8, 9, 15, 16], [0, 1, 2, 3, 4, 5, 6, 7, 8, 9, 15, 16, 17], [0, 1, 2, 3, 4, 5, 6, 7, 8, 9, 15, 16, 17, 18], [0, 1, 2, 3, 4, 5, 6, 7, 8, 9, 10, 11, 12, 13, 14, 15, 16, 17, 18, 19], [0, 1, 2, 3, 4, 5, 6, 7, 8, 9, 10, 11, 12, 13, 14, 15, 16, 17, 18, 19, 20], [0, 1, 2, 3, 4, 5, 6, 7, 8, 9, 10, 11, 12, 13, 14, 15, 16, 17, 18, 19, 20, 21]] [] (by kernel_rfl) (by kernel_rfl) (fun (ix_ : Nat) (v : Value) (G : GH) => match ix_ with | 0 => v = vi k | 1 => v = .slice B m.length cb | 2 => v = vi m.length | 3 => v = .bool (decide ((k : Int) = (m.length : Int))) | 4 => v = .bool (decide ((k : Int) = (m.length : Int))) | 5 => v = undef | 6 => v = undef | 7 => v = undef | 8 => v = undef | 9 => v = undef | 10 => v = undef | 11 => v = undef | 12 => v = undef | 13 => v = undef | 14 => v = undef | 15 => v = undef | 16 => v = undef | 17 => v = undef | 18 => v = undef | 19 => v = undef | 20 => v = undef | 21 => v = undef | 22 => v = .bool true | _ => True) (fun _ _ _ _ _ h => h) H ?_ ?_
    · clear H; refine (allI_cons ?_ (allI_cons ?_ (allI_cons ?_ (allI_cons ?_ (allI_cons ?_ (allI_cons ?_ (allI_cons ?_ (allI_cons ?_ (allI_cons ?_ (allI_cons ?_ (allI_cons ?_ (allI_cons ?_ (allI_cons ?_ (allI_cons ?_ (allI_cons ?_ (allI_cons ?_ (allI_cons ?_ (allI_cons ?_ (allI_cons ?_ (allI_cons ?_ (allI_cons ?_ (allI_cons ?_ (allI_cons ?_ allI_nil)))))))))))))))))))))))
      · refine opI [] rfl trivial (by kernel_rfl) (fun _ _ _ _ _ h => h) rfl rfl ?_; intro Sd_ a w G1 hG HT H fin; refine s_move H wn rfl rfl ?_; clear H; intro a H; exact fin H (fun _ _ h => h) (rfl)
      · refine opI [] rfl trivial (by kernel_rfl) (fun _ _ _ _ _ h => h) rfl rfl ?_; intro Sd_ a w G1 hG HT H fin; refine s_load ty25run H wn rfl (H.hp.gcell (gcell_mono hG hbg)) rfl ?_; clear H; intro a H; exact fin H (fun _ _ h => h) (rfl)
      · refine opI [(1, 19, _)] rfl ⟨fun _ _ h => h, trivial⟩ (by kernel_rfl) (fun _ _ _ _ _ h => h) rfl rfl ?_; intro Sd_ a w G1 hG HT H fin; refine s_len un25run H wn rfl rfl ?_; clear H; intro a H; exact fin H (fun _ _ h => h) (rfl)
      · refine opI [(0, 18, _), (2, 20, _)] rfl ⟨fun _ _ h => h, fun _ _ h => h, trivial⟩ (by kernel_rfl) (fun _ _ _ _ _ h => h) rfl rfl ?_; intro Sd_ a w G1 hG HT H fin; refine s_cmp H wn rfl rfl rfl rfl ?_; clear H; intro a H; exact fin H (fun _ _ h => h) (rfl)
      · refine opI [(3, 21, _)] rfl ⟨fun _ _ h => h, trivial⟩ (by kernel_rfl) (fun _ _ _ _ _ h => h) rfl rfl ?_; intro Sd_ a w G1 hG HT H fin; refine s_move H wn rfl rfl ?_; clear H; intro a H; exact fin H (fun _ _ h => h) (rfl)
      · exact skipI (j := 4) (by kernel_rfl) (fun _ _ _ _ _ h => h) rfl rfl rfl rfl rfl (fun _ _ h => Eq.trans h (congrArg Value.bool (decide_eq_true (Decidable.not_not.1 n0)))) rfl (fun _ => rfl)
      · exact skipI (j := 4) (by kernel_rfl) (fun _ _ _ _ _ h => h) rfl rfl rfl rfl rfl (fun _ _ h => Eq.trans h (congrArg Value.bool (decide_eq_true (Decidable.not_not.1 n0)))) rfl (fun _ => rfl)
      · exact skipI (j := 4) (by kernel_rfl) (fun _ _ _ _ _ h => h) rfl rfl rfl rfl rfl (fun _ _ h => Eq.trans h (congrArg Value.bool (decide_eq_true (Decidable.not_not.1 n0)))) rfl (fun _ => rfl)
      · exact skipI (j := 4) (by kernel_rfl) (fun _ _ _ _ _ h => h) rfl rfl rfl rfl rfl (fun _ _ h => Eq.trans h (congrArg Value.bool (decide_eq_true (Decidable.not_not.1 n0)))) rfl (fun _ => rfl)
      · exact skipI (j := 4) (by kernel_rfl) (fun _ _ _ _ _ h => h) rfl rfl rfl rfl rfl (fun _ _ h => Eq.trans h (congrArg Value.bool (decide_eq_true (Decidable.not_not.1 n0)))) rfl (fun _ => rfl)
      · exact skipUI (j := 9) (by kernel_rfl) (fun _ _ _ _ _ h => h) rfl rfl rfl rfl rfl (fun _ _ h => h) (fun _ => rfl)
      · exact skipUI (j := 9) (by kernel_rfl) (fun _ _ _ _ _ h => h) rfl rfl rfl rfl rfl (fun _ _ h => h) (fun _ => rfl)
      · exact skipUI (j := 9) (by kernel_rfl) (fun _ _ _ _ _ h => h) rfl rfl rfl rfl rfl (fun _ _ h => h) (fun _ => rfl)
      · exact skipUI (j := 9) (by kernel_rfl) (fun _ _ _ _ _ h => h) rfl rfl rfl rfl rfl (fun _ _ h => h) (fun _ => rfl)
      · exact skipUI (j := 9) (by kernel_rfl) (fun _ _ _ _ _ h => h) rfl rfl rfl rfl rfl (fun _ _ h => h) (fun _ => rfl)
      · exact skipUI (j := 9) (by kernel_rfl) (fun _ _ _ _ _ h => h) rfl rfl rfl rfl rfl (fun _ _ h => h) (fun _ => rfl)
      · exact skipUI (j := 9) (by kernel_rfl) (fun _ _ _ _ _ h => h) rfl rfl rfl rfl rfl (fun _ _ h => h) (fun _ => rfl)
      · exact skipUI (j := 9) (by kernel_rfl) (fun _ _ _ _ _ h => h) rfl rfl rfl rfl rfl (fun _ _ h => h) (fun _ => rfl)
      · exact skipUI (j := 9) (by kernel_rfl) (fun _ _ _ _ _ h => h) rfl rfl rfl rfl rfl (fun _ _ h => h) (fun _ => rfl)
      · exact skipUI (j := 9) (by kernel_rfl) (fun _ _ _ _ _ h => h) rfl rfl rfl rfl rfl (fun _ _ h => h) (fun _ => rfl)
      · exact skipUI (j := 9) (by kernel_rfl) (fun _ _ _ _ _ h => h) rfl rfl rfl rfl rfl (fun _ _ h => h) (fun _ => rfl)
      · exact skipI (j := 4) (by kernel_rfl) (fun _ _ _ _ _ h => h) rfl rfl rfl rfl rfl (fun _ _ h => Eq.trans h (congrArg Value.bool (decide_eq_true (Decidable.not_not.1 n0)))) rfl (fun _ => rfl)
      refine opI [(4, 22, _), (21, 39, _)] rfl ⟨fun _ _ h => h, fun _ _ h => h, trivial⟩ (by kernel_rfl) (fun _ _ _ _ _ h => h) rfl rfl ?_; intro Sd_ a w G1 hG HT H fin; refine s_pick_t H wn rfl (decide_eq_true (Decidable.not_not.1 n0)) rfl rfl ?_; clear H; intro a H; exact fin H (fun _ _ h => h) (rfl)
    clear H; intro a w G hGm3 H hv; obtain ⟨u40, hu40, hp40⟩ := hv 22 40 (by decide) rfl; obtain rfl : u40 = .bool true := hp40; have H := H.addS hu40; clear hv; refine wl_nil ⟨rfl, ?_⟩; refine hK6 _ _ ?_; clear hK6; refine c_cond_t H rfl rfl ?_; refine c_region ?_; refine s_load ty25run H wn rfl (H.hp.gcell (gcell_mono hGm3 hag)) rfl ?_; clear H; intro a H; rw [(hx (by omega)).1] at H; refine s_move H wn rfl rfl ?_; clear H; intro a H; refine s_index un25run ty40run i H wn rfl rfl rfl (by omega) rfl ?_; clear H; intro a H; refine s_assign H wn rfl rfl ?_; clear H; intro a H; refine wl_nil ?_; refine hK5 _ _ ?_; clear hK5; refine c_seq (fun _ hK26 => ?_); refine c_seq (fun _ hK27 => ?_)
    have m0 : ¬ (i : Int) = (l.length : Int) := by omega
    have m1 : ¬ ((k : Int) < (m.length : Int)) := by omega
    refine c_drawI (hmx) [[], [], [1], [0, 1, 2], [0, 1, 2, 3], [0, 1, 2, 3, 4], [0, 1, 2, 3, 4], [0, 1, 2, 3, 4, 6], [0, 1, 2, 3, 4, 5, 6, 7], [0, 1, 2, 3, 4, 5, 6, 7, 8], [0, 1, 2, 3, 4, 5, 6, 7, 8, 9], [0, 1, 2, 3, 4, 5, 6, 7, 8, 9], [0, 1, 2, 3, 4, 5, 6, 7, 8, 9, 10, 11], [0, 1, 2, 3, 4, 5, 6, 7, 8, 9, 10, 11, 12], [0, 1, 2, 3, 4, 5, 6, 7, 8, 9, 10, 11, 12, 13], [0, 1, 2, 3, 4, 5, 6, 7, 8, 9], [0, 1, 2, 3, 4, 5, 6, 7, 8, 9], [0, 1, 2, 3, 4, 5, 6, 7, 8, 9, 15, 16], [0, 1, 2, 3, 4, 5, 6, 7, 8, 9, 15, 16, 17], [0, 1, 2, 3, 4, 5, 6, 7, 8, 9, 15, 16, 17, 18], [0, 1, 2, 3, 4, 5, 6, 7, 8, 9, 10, 11, 12, 13, 14, 15, 16, 17, 18, 19], [0, 1, 2, 3, 4, 5, 6, 7, 8, 9, 10, 11, 12, 13, 14, 15, 16, 17, 18, 19, 20], [0, 1, 2, 3, 4, 5, 6, 7, 8, 9, 10, 11, 12, 13, 14, 15, 16, 17, 18, 19, 20, 21]] [] (by kernel_rfl) (by kernel_rfl) (fun (ix_ : Nat) (v : Value) (G : GH) => match ix_ with | 0 => v = vi i | 1 => v = .slice A l.length ca | 2 => v = vi l.length | 3 => v = .bool (decide ((i : Int) = (l.length : Int))) | 4 => v = .bool (decide ((i : Int) = (l.length : Int))) | 5 => v = vi k | 6 => v = .slice B m.length cb | 7 => v = vi m.length | 8 => v = .bool (decide ((k : Int) < (m.length : Int))) | 9 => v = .bool (decide ((k : Int) < (m.length : Int))) | 10 => v = undef | 11 => v = undef | 12 => v = undef | 13 => v = undef | 14 => v = undef | 15 => v = undef | 16 => v = undef | 17 => v = undef | 18 => v = undef | 19 => v = undef | 20 => v = undef | 21 => v = .bool false | 22 => v = .bool false | _ => True) (fun _ _ _ _ _ h => h) H ?_ ?_
    · clear H; refine (allI_cons ?_ (allI_cons ?_ (allI_cons ?_ (allI_cons ?_ (allI_cons ?_ (allI_cons ?_ (allI_cons ?_ (allI_cons ?_ (allI_cons ?_ (allI_cons ?_ (allI_cons ?_ (allI_cons ?_ (allI_cons ?_ (allI_cons ?_ (allI_cons ?_ (allI_cons ?_ (allI_cons ?_ (allI_cons ?_ (allI_cons ?_ (allI_cons ?_ (allI_cons ?_ (allI_cons ?_ (allI_cons ?_ allI_nil)))))))))))))))))))))))
      · refine opI [] rfl trivial (by kernel_rfl) (fun _ _ _ _ _ h => h) rfl rfl ?_; intro Sd_ a w G1 hG HT H fin; refine s_move H wn rfl rfl ?_; clear H; intro a H; exact fin H (fun _ _ h => h) (rfl)
      · refine opI [] rfl trivial (by kernel_rfl) (fun _ _ _ _ _ h => h) rfl rfl ?_; intro Sd_ a w G1 hG HT H fin; refine s_load ty25run H wn rfl (H.hp.gcell (gcell_mono hG (gcell_mono hGm3 hag))) rfl ?_; clear H; intro a H; exact fin H (fun _ _ h => h) (rfl)
      · refine opI [(1, 45, _)] rfl ⟨fun _ _ h => h, trivial⟩ (by kernel_rfl) (fun _ _ _ _ _ h => h) rfl rfl ?_; intro Sd_ a w G1 hG HT H fin; refine s_len un25run H wn rfl rfl ?_; clear H; intro a H; exact fin H (fun _ _ h => h) (rfl)
      · refine opI [(0, 44, _), (2, 46, _)] rfl ⟨fun _ _ h => h, fun _ _ h => h, trivial⟩ (by kernel_rfl) (fun _ _ _ _ _ h => h) rfl rfl ?_; intro Sd_ a w G1 hG HT H fin; refine s_cmp H wn rfl rfl rfl rfl ?_; clear H; intro a H; exact fin H (fun _ _ h => h) (rfl)
      · refine opI [(3, 47, _)] rfl ⟨fun _ _ h => h, trivial⟩ (by kernel_rfl) (fun _ _ _ _ _ h => h) rfl rfl ?_; intro Sd_ a w G1 hG HT H fin; refine s_move H wn rfl rfl ?_; clear H; intro a H; exact fin H (fun _ _ h => h) (rfl)
      · refine opI [(4, 48, _)] rfl ⟨fun _ _ h => h, trivial⟩ (by kernel_rfl) (fun _ _ _ _ _ h => h) rfl rfl ?_; intro Sd_ a w G1 hG HT H fin; refine s_move H (wg H rfl rfl (decide_eq_false m0)) rfl rfl ?_; clear H; intro a H; exact fin H (fun _ _ h => h) (rfl)
      · refine opI [(4, 48, _)] rfl ⟨fun _ _ h => h, trivial⟩ (by kernel_rfl) (fun _ _ _ _ _ h => h) rfl rfl ?_; intro Sd_ a w G1 hG HT H fin; refine s_load ty25run H (wg H rfl rfl (decide_eq_false m0)) rfl (H.hp.gcell (gcell_mono hG (gcell_mono hGm3 hbg))) rfl ?_; clear H; intro a H; exact fin H (fun _ _ h => h) (rfl)
      · refine opI [(6, 50, _), (4, 48, _)] rfl ⟨fun _ _ h => h, fun _ _ h => h, trivial⟩ (by kernel_rfl) (fun _ _ _ _ _ h => h) rfl rfl ?_; intro Sd_ a w G1 hG HT H fin; refine s_len un25run H (wg H rfl rfl (decide_eq_false m0)) rfl rfl ?_; clear H; intro a H; exact fin H (fun _ _ h => h) (rfl)
      · refine opI [(5, 49, _), (7, 51, _), (4, 48, _)] rfl ⟨fun _ _ h => h, fun _ _ h => h, fun _ _ h => h, trivial⟩ (by kernel_rfl) (fun _ _ _ _ _ h => h) rfl rfl ?_; intro Sd_ a w G1 hG HT H fin; refine s_cmp H (wg H rfl rfl (decide_eq_false m0)) rfl rfl rfl rfl ?_; clear H; intro a H; exact fin H (fun _ _ h => h) (rfl)
      · refine opI [(8, 52, _), (4, 48, _)] rfl ⟨fun _ _ h => h, fun _ _ h => h, trivial⟩ (by kernel_rfl) (fun _ _ _ _ _ h => h) rfl rfl ?_; intro Sd_ a w G1 hG HT H fin; refine s_move H (wg H rfl rfl (decide_eq_false m0)) rfl rfl ?_; clear H; intro a H; exact fin H (fun _ _ h => h) (rfl)
      · exact skipI (j := 9) (by kernel_rfl) (fun _ _ _ _ _ h => h) rfl rfl rfl rfl rfl (fun _ _ h => Eq.trans h (congrArg Value.bool (decide_eq_false m1))) rfl (fun _ => rfl)
      · exact skipI (j := 9) (by kernel_rfl) (fun _ _ _ _ _ h => h) rfl rfl rfl rfl rfl (fun _ _ h => Eq.trans h (congrArg Value.bool (decide_eq_false m1))) rfl (fun _ => rfl)
      · exact skipI (j := 9) (by kernel_rfl) (fun _ _ _ _ _ h => h) rfl rfl rfl rfl rfl (fun _ _ h => Eq.trans h (congrArg Value.bool (decide_eq_false m1))) rfl (fun _ => rfl)
      · exact skipI (j := 9) (by kernel_rfl) (fun _ _ _ _ _ h => h) rfl rfl rfl rfl rfl (fun _ _ h => Eq.trans h (congrArg Value.bool (decide_eq_false m1))) rfl (fun _ => rfl)
      · exact skipI (j := 9) (by kernel_rfl) (fun _ _ _ _ _ h => h) rfl rfl rfl rfl rfl (fun _ _ h => Eq.trans h (congrArg Value.bool (decide_eq_false m1))) rfl (fun _ => rfl)
      · exact skipI (j := 9) (by kernel_rfl) (fun _ _ _ _ _ h => h) rfl rfl rfl rfl rfl (fun _ _ h => Eq.trans h (congrArg Value.bool (decide_eq_false m1))) rfl (fun _ => rfl)
      · exact skipI (j := 9) (by kernel_rfl) (fun _ _ _ _ _ h => h) rfl rfl rfl rfl rfl (fun _ _ h => Eq.trans h (congrArg Value.bool (decide_eq_false m1))) rfl (fun _ => rfl)
      · exact skipI (j := 9) (by kernel_rfl) (fun _ _ _ _ _ h => h) rfl rfl rfl rfl rfl (fun _ _ h => Eq.trans h (congrArg Value.bool (decide_eq_false m1))) rfl (fun _ => rfl)
      · exact skipI (j := 9) (by kernel_rfl) (fun _ _ _ _ _ h => h) rfl rfl rfl rfl rfl (fun _ _ h => Eq.trans h (congrArg Value.bool (decide_eq_false m1))) rfl (fun _ => rfl)
      · exact skipI (j := 9) (by kernel_rfl) (fun _ _ _ _ _ h => h) rfl rfl rfl rfl rfl (fun _ _ h => Eq.trans h (congrArg Value.bool (decide_eq_false m1))) rfl (fun _ => rfl)
      · exact skipI (j := 9) (by kernel_rfl) (fun _ _ _ _ _ h => h) rfl rfl rfl rfl rfl (fun _ _ h => Eq.trans h (congrArg Value.bool (decide_eq_false m1))) rfl (fun _ => rfl)
      · refine opI [(9, 53, _), (20, 64, _), (4, 48, _)] rfl ⟨fun _ _ h => h, fun _ _ h => h, fun _ _ h => h, trivial⟩ (by kernel_rfl) (fun _ _ _ _ _ h => h) rfl rfl ?_; intro Sd_ a w G1 hG HT H fin; refine s_pick_f H (wg H rfl rfl (decide_eq_false m0)) rfl (decide_eq_false m1) rfl rfl ?_; clear H; intro a H; exact fin H (fun _ _ h => h) (rfl)
      refine opI [(4, 48, _), (21, 65, _)] rfl ⟨fun _ _ h => h, fun _ _ h => h, trivial⟩ (by kernel_rfl) (fun _ _ _ _ _ h => h) rfl rfl ?_; intro Sd_ a w G1 hG HT H fin; refine s_pick_f H wn rfl (decide_eq_false m0) rfl rfl ?_; clear H; intro a H; exact fin H (fun _ _ h => h) (rfl)
    clear H; intro a w G hGm5 H hv; obtain ⟨u66, hu66, hp66⟩ := hv 22 66 (by decide) rfl; obtain rfl : u66 = .bool false := hp66; have H := H.addS hu66; clear hv; refine wl_nil ⟨rfl, ?_⟩; refine hK27 _ _ ?_; clear hK27; refine c_cond_f H rfl rfl ?_; refine c_skip ?_; refine hK26 _ _ ?_; clear hK26; refine c_seq (fun _ hK28 => ?_); refine c_seqR (fun _ hK29 => ?_); refine s_move H wn rfl rfl ?_; clear H; intro a H; refine s_neqnilp un211prm H wn rfl rfl ?_; clear H; intro a H; refine hK29 _ _ ?_; clear hK29; refine c_cond H rfl ?_ ?_
    · intro h71
      try have p71 := of_decide_eq_true h71
      refine c_region ?_; refine s_move H wn rfl rfl ?_; clear H; intro a H; refine s_add _ H wn rfl rfl rfl (by omega) (by omega) rfl ?_; clear H; intro a H; refine s_assign H wn rfl rfl ?_; clear H; intro a H; refine wl_nil ?_; refine hK28 _ _ ?_; clear hK28; refine c_seq (fun _ hK30 => ?_); refine c_seqR (fun _ hK31 => ?_); refine s_move H wn rfl rfl ?_; clear H; intro a H; refine s_neqnilp un211prm H wn rfl rfl ?_; clear H; intro a H; refine hK31 _ _ ?_; clear hK31; refine c_cond H rfl ?_ ?_
      · intro h75
        try have p75 := of_decide_eq_true h75
        cases h75
      intro h75
      try have p75 := of_decide_eq_false h75
      refine c_skip ?_; refine hK30 _ _ ?_; clear hK30; refine c_seq (fun _ hK32 => ?_); obtain ⟨f', rfl⟩ : ∃ f', f = f' + 1 := ⟨f - 1, by omega⟩; have hgm5 := fun b o (h : g b = some o) => hGm5 b o (hGm3 b o h)
      first
        | rw [prF_ab (hx (by omega)).2.1 (hy (by omega)).2.1 n2 m2] at hnow
        | rw [prF_aa (hx (by omega)).2.1 (hy (by omega)).2.1 n2 m2] at hnow
        | rw [prF_bb (hx (by omega)).2.1 (hy (by omega)).2.1 n2] at hnow
        | rw [prF_a (hx (by omega)).2.1 (by omega)] at hnow
        | rw [prF_b (by omega) (hy (by omega)).2.1] at hnow
      have hnow2 := hnow.up hJm hgm5; refine c_region ?_; (iterate 3 refine s_move H wn rfl rfl ?_; clear H; intro a H); refine s_callv (Li := []) (L := Lt) H wn rfl rfl (hcb j1 _ _ _ _ ⟨_, hnow2.head, _, _, rfl, by first | exact rfl | exact ⟨_, _, rfl, gcell_mono hgm5 (hx (by omega)).2.2.1, gcell_mono hgm5 (hx (by omega)).2.2.2⟩, by first | exact rfl | exact ⟨_, _, rfl, gcell_mono hgm5 (hy (by omega)).2.2.1, gcell_mono hgm5 (hy (by omega)).2.2.2⟩⟩ (fun b o h => hgm5 b o (hgm b o h)) hnow2.now (Hp.owns (Li := []) H.hp)) rfl ?_; clear H; rintro v81 G81 Lt81 a w ⟨b81, rfl, hb1, hb2⟩ hm81 H; refine s_not H wn rfl rfl ?_; clear H; intro a H; refine wl_nil ?_; refine hK32 _ _ ?_; clear hK32; refine c_cond H rfl ?_ ?_
      · intro h82
        try have p82 := of_decide_eq_true h82
        refine c_ret ?_; refine (leave0 H Tryz.results187 ?_).1
        first
          | exact H.hp.retD (L' := Lt81) (by repeat (first | exact List.Sublist.refl _ | apply List.Sublist.cons)) (.inr (hb2 (by simpa using h82)))
          | (rw [prF_end (by omega) (by omega)] at hnow
             refine H.hp.retD (L' := Lt) (by repeat (first | exact List.Sublist.refl _ | apply List.Sublist.cons)) (.inl ?_); have h := hnow.len
             simp only [List.length_nil, Nat.add_zero] at h
             rw [← h]
             exact hnow.now)
      intro h82
      try have p82 := of_decide_eq_false h82
      refine c_skip ?_; refine loop_end ((i + 1, k, f', j1 + 1, Lt81, G81)) (by exact (H).sub ⟨rfl, rfl, rfl, rfl, rfl, trivial⟩) ?_ ?_
      · (try dsimp only); exact ⟨by omega, by omega, by omega, fun b o h => hm81 b o (hgm5 b o (hgm b o h)), hnow2.step (hb1 (by simpa using h82))⟩
      first | omega | (dsimp only; omega)
    intro h71
    try have p71 := of_decide_eq_false h71
    cases h71
  intro h12
  try have p12 := of_decide_eq_false h12
  refine s_move H (wg H rfl rfl h12) rfl rfl ?_; clear H; intro a H; refine s_load ty25run H (wg H rfl rfl h12) rfl (H.hp.gcell hbg) rfl ?_; clear H; intro a H; refine s_len un25run H (wg H rfl rfl h12) rfl rfl ?_; clear H; intro a H; refine s_cmp H (wg H rfl rfl h12) rfl rfl rfl rfl ?_; clear H; intro a H; refine s_pick_f H wn rfl h12 rfl rfl ?_; clear H; intro a H; refine hK3 _ _ ?_; clear hK3; refine c_cond H rfl ?_ ?_
  · intro h17
    try have p17 := of_decide_eq_true h17
    refine c_skip ?_; refine hK2 _ _ ?_; clear hK2; refine c_block ?_; refine c_seqR (fun _ hK33 => ?_); (iterate 2 refine s_assign H wn rfl rfl ?_; clear H; intro a H); refine hK33 _ _ ?_; clear hK33; refine c_seq (fun _ hK34 => ?_); refine c_seq (fun _ hK35 => ?_); obtain ⟨x, xb, xo, hx⟩ := pick_at (hva.mono hgm) i; obtain ⟨y, yb, yo, hy⟩ := pick_at (hvb.mono hgm) k
    have n0 : ¬ (k : Int) = (m.length : Int) := by omega
    have n1 : ¬ ((i : Int) < (l.length : Int)) := p12; refine c_drawI (hmx) [[], [], [1], [0, 1, 2], [0, 1, 2, 3], [0, 1, 2, 3, 4], [0, 1, 2, 3, 4], [0, 1, 2, 3, 4, 6], [0, 1, 2, 3, 4, 5, 6, 7], [0, 1, 2, 3, 4, 5, 6, 7, 8], [0, 1, 2, 3, 4, 5, 6, 7, 8, 9], [0, 1, 2, 3, 4, 5, 6, 7, 8, 9], [0, 1, 2, 3, 4, 5, 6, 7, 8, 9, 10, 11], [0, 1, 2, 3, 4, 5, 6, 7, 8, 9, 10, 11, 12], [0, 1, 2, 3, 4, 5, 6, 7, 8, 9, 10, 11, 12, 13], [0, 1, 2, 3, 4, 5, 6, 7, 8, 9], [0, 1, 2, 3, 4, 5, 6, 7, 8, 9], [0, 1, 2, 3, 4, 5, 6, 7, 8, 9, 15, 16], [0, 1, 2, 3, 4, 5, 6, 7, 8, 9, 15, 16, 17], [0, 1, 2, 3, 4, 5, 6, 7, 8, 9, 15, 16, 17, 18], [0, 1, 2, 3, 4, 5, 6, 7, 8, 9, 10, 11, 12, 13, 14, 15, 16, 17, 18, 19], [0, 1, 2, 3, 4, 5, 6, 7, 8, 9, 10, 11, 12, 13, 14, 15, 16, 17, 18, 19, 20], [0, 1, 2, 3, 4, 5, 6, 7, 8, 9, 10, 11, 12, 13, 14, 15, 16, 17, 18, 19, 20, 21]] [] (by kernel_rfl) (by kernel_rfl) (fun (ix_ : Nat) (v : Value) (G : GH) => match ix_ with | 0 => v = vi k | 1 => v = .slice B m.length cb | 2 => v = vi m.length | 3 => v = .bool (decide ((k : Int) = (m.length : Int))) | 4 => v = .bool (decide ((k : Int) = (m.length : Int))) | 5 => v = vi i | 6 => v = .slice A l.length ca | 7 => v = vi l.length | 8 => v = .bool (decide ((i : Int) < (l.length : Int))) | 9 => v = .bool (decide ((i : Int) < (l.length : Int))) | 10 => v = undef | 11 => v = undef | 12 => v = undef | 13 => v = undef | 14 => v = undef | 15 => v = undef | 16 => v = undef | 17 => v = undef | 18 => v = undef | 19 => v = undef | 20 => v = undef | 21 => v = .bool false | 22 => v = .bool false | _ => True) (fun _ _ _ _ _ h => h) H ?_ ?_
    · clear H; refine (allI_cons ?_ (allI_cons ?_ (allI_cons ?_ (allI_cons ?_ (allI_cons ?_ (allI_cons ?_ (allI_cons ?_ (allI_cons ?_ (allI_cons ?_ (allI_cons ?_ (allI_cons ?_ (allI_cons ?_ (allI_cons ?_ (allI_cons ?_ (allI_cons ?_ (allI_cons ?_ (allI_cons ?_ (allI_cons ?_ (allI_cons ?_ (allI_cons ?_ (allI_cons ?_ (allI_cons ?_ (allI_cons ?_ allI_nil)))))))))))))))))))))))
      · refine opI [] rfl trivial (by kernel_rfl) (fun _ _ _ _ _ h => h) rfl rfl ?_; intro Sd_ a w G1 hG HT H fin; refine s_move H wn rfl rfl ?_; clear H; intro a H; exact fin H (fun _ _ h => h) (rfl)
      · refine opI [] rfl trivial (by kernel_rfl) (fun _ _ _ _ _ h => h) rfl rfl ?_; intro Sd_ a w G1 hG HT H fin; refine s_load ty25run H wn rfl (H.hp.gcell (gcell_mono hG hbg)) rfl ?_; clear H; intro a H; exact fin H (fun _ _ h => h) (rfl)
      · refine opI [(1, 19, _)] rfl ⟨fun _ _ h => h, trivial⟩ (by kernel_rfl) (fun _ _ _ _ _ h => h) rfl rfl ?_; intro Sd_ a w G1 hG HT H fin; refine s_len un25run H wn rfl rfl ?_; clear H; intro a H; exact fin H (fun _ _ h => h) (rfl)
      · refine opI [(0, 18, _), (2, 20, _)] rfl ⟨fun _ _ h => h, fun _ _ h => h, trivial⟩ (by kernel_rfl) (fun _ _ _ _ _ h => h) rfl rfl ?_; intro Sd_ a w G1 hG HT H fin; refine s_cmp H wn rfl rfl rfl rfl ?_; clear H; intro a H; exact fin H (fun _ _ h => h) (rfl)
      · refine opI [(3, 21, _)] rfl ⟨fun _ _ h => h, trivial⟩ (by kernel_rfl) (fun _ _ _ _ _ h => h) rfl rfl ?_; intro Sd_ a w G1 hG HT H fin; refine s_move H wn rfl rfl ?_; clear H; intro a H; exact fin H (fun _ _ h => h) (rfl)
      · refine opI [(4, 22, _)] rfl ⟨fun _ _ h => h, trivial⟩ (by kernel_rfl) (fun _ _ _ _ _ h => h) rfl rfl ?_; intro Sd_ a w G1 hG HT H fin; refine s_move H (wg H rfl rfl (decide_eq_false n0)) rfl rfl ?_; clear H; intro a H; exact fin H (fun _ _ h => h) (rfl)
      · refine opI [(4, 22, _)] rfl ⟨fun _ _ h => h, trivial⟩ (by kernel_rfl) (fun _ _ _ _ _ h => h) rfl rfl ?_; intro Sd_ a w G1 hG HT H fin; refine s_load ty25run H (wg H rfl rfl (decide_eq_false n0)) rfl (H.hp.gcell (gcell_mono hG hag)) rfl ?_; clear H; intro a H; exact fin H (fun _ _ h => h) (rfl)
      · refine opI [(6, 24, _), (4, 22, _)] rfl ⟨fun _ _ h => h, fun _ _ h => h, trivial⟩ (by kernel_rfl) (fun _ _ _ _ _ h => h) rfl rfl ?_; intro Sd_ a w G1 hG HT H fin; refine s_len un25run H (wg H rfl rfl (decide_eq_false n0)) rfl rfl ?_; clear H; intro a H; exact fin H (fun _ _ h => h) (rfl)
      · refine opI [(5, 23, _), (7, 25, _), (4, 22, _)] rfl ⟨fun _ _ h => h, fun _ _ h => h, fun _ _ h => h, trivial⟩ (by kernel_rfl) (fun _ _ _ _ _ h => h) rfl rfl ?_; intro Sd_ a w G1 hG HT H fin; refine s_cmp H (wg H rfl rfl (decide_eq_false n0)) rfl rfl rfl rfl ?_; clear H; intro a H; exact fin H (fun _ _ h => h) (rfl)
      · refine opI [(8, 26, _), (4, 22, _)] rfl ⟨fun _ _ h => h, fun _ _ h => h, trivial⟩ (by kernel_rfl) (fun _ _ _ _ _ h => h) rfl rfl ?_; intro Sd_ a w G1 hG HT H fin; refine s_move H (wg H rfl rfl (decide_eq_false n0)) rfl rfl ?_; clear H; intro a H; exact fin H (fun _ _ h => h) (rfl)
      · exact skipI (j := 9) (by kernel_rfl) (fun _ _ _ _ _ h => h) rfl rfl rfl rfl rfl (fun _ _ h => Eq.trans h (congrArg Value.bool (decide_eq_false n1))) rfl (fun _ => rfl)
      · exact skipI (j := 9) (by kernel_rfl) (fun _ _ _ _ _ h => h) rfl rfl rfl rfl rfl (fun _ _ h => Eq.trans h (congrArg Value.bool (decide_eq_false n1))) rfl (fun _ => rfl)
      · exact skipI (j := 9) (by kernel_rfl) (fun _ _ _ _ _ h => h) rfl rfl rfl rfl rfl (fun _ _ h => Eq.trans h (congrArg Value.bool (decide_eq_false n1))) rfl (fun _ => rfl)
      · exact skipI (j := 9) (by kernel_rfl) (fun _ _ _ _ _ h => h) rfl rfl rfl rfl rfl (fun _ _ h => Eq.trans h (congrArg Value.bool (decide_eq_false n1))) rfl (fun _ => rfl)
      · exact skipI (j := 9) (by kernel_rfl) (fun _ _ _ _ _ h => h) rfl rfl rfl rfl rfl (fun _ _ h => Eq.trans h (congrArg Value.bool (decide_eq_false n1))) rfl (fun _ => rfl)
      · exact skipI (j := 9) (by kernel_rfl) (fun _ _ _ _ _ h => h) rfl rfl rfl rfl rfl (fun _ _ h => Eq.trans h (congrArg Value.bool (decide_eq_false n1))) rfl (fun _ => rfl)
      · exact skipI (j := 9) (by kernel_rfl) (fun _ _ _ _ _ h => h) rfl rfl rfl rfl rfl (fun _ _ h => Eq.trans h (congrArg Value.bool (decide_eq_false n1))) rfl (fun _ => rfl)
      · exact skipI (j := 9) (by kernel_rfl) (fun _ _ _ _ _ h => h) rfl rfl rfl rfl rfl (fun _ _ h => Eq.trans h (congrArg Value.bool (decide_eq_false n1))) rfl (fun _ => rfl)
      · exact skipI (j := 9) (by kernel_rfl) (fun _ _ _ _ _ h => h) rfl rfl rfl rfl rfl (fun _ _ h => Eq.trans h (congrArg Value.bool (decide_eq_false n1))) rfl (fun _ => rfl)
      · exact skipI (j := 9) (by kernel_rfl) (fun _ _ _ _ _ h => h) rfl rfl rfl rfl rfl (fun _ _ h => Eq.trans h (congrArg Value.bool (decide_eq_false n1))) rfl (fun _ => rfl)
      · exact skipI (j := 9) (by kernel_rfl) (fun _ _ _ _ _ h => h) rfl rfl rfl rfl rfl (fun _ _ h => Eq.trans h (congrArg Value.bool (decide_eq_false n1))) rfl (fun _ => rfl)
      · refine opI [(9, 27, _), (20, 38, _), (4, 22, _)] rfl ⟨fun _ _ h => h, fun _ _ h => h, fun _ _ h => h, trivial⟩ (by kernel_rfl) (fun _ _ _ _ _ h => h) rfl rfl ?_; intro Sd_ a w G1 hG HT H fin; refine s_pick_f H (wg H rfl rfl (decide_eq_false n0)) rfl (decide_eq_false n1) rfl rfl ?_; clear H; intro a H; exact fin H (fun _ _ h => h) (rfl)
      refine opI [(4, 22, _), (21, 39, _)] rfl ⟨fun _ _ h => h, fun _ _ h => h, trivial⟩ (by kernel_rfl) (fun _ _ _ _ _ h => h) rfl rfl ?_; intro Sd_ a w G1 hG HT H fin; refine s_pick_f H wn rfl (decide_eq_false n0) rfl rfl ?_; clear H; intro a H; exact fin H (fun _ _ h => h) (rfl)
    clear H; intro a w G hGm3 H hv; obtain ⟨u40, hu40, hp40⟩ := hv 22 40 (by decide) rfl; obtain rfl : u40 = .bool false := hp40; have H := H.addS hu40; clear hv; refine wl_nil ⟨rfl, ?_⟩; refine hK35 _ _ ?_; clear hK35; refine c_cond_f H rfl rfl ?_; refine c_skip ?_; refine hK34 _ _ ?_; clear hK34; refine c_seq (fun _ hK36 => ?_); refine c_seq (fun _ hK37 => ?_)
    have m0 : ¬ (¬ (i : Int) = (l.length : Int)) := by omega
    refine c_drawI (hmx) [[], [], [1], [0, 1, 2], [0, 1, 2, 3], [0, 1, 2, 3, 4], [0, 1, 2, 3, 4], [0, 1, 2, 3, 4, 6], [0, 1, 2, 3, 4, 5, 6, 7], [0, 1, 2, 3, 4, 5, 6, 7, 8], [0, 1, 2, 3, 4, 5, 6, 7, 8, 9], [0, 1, 2, 3, 4, 5, 6, 7, 8, 9], [0, 1, 2, 3, 4, 5, 6, 7, 8, 9, 10, 11], [0, 1, 2, 3, 4, 5, 6, 7, 8, 9, 10, 11, 12], [0, 1, 2, 3, 4, 5, 6, 7, 8, 9, 10, 11, 12, 13], [0, 1, 2, 3, 4, 5, 6, 7, 8, 9], [0, 1, 2, 3, 4, 5, 6, 7, 8, 9], [0, 1, 2, 3, 4, 5, 6, 7, 8, 9, 15, 16], [0, 1, 2, 3, 4, 5, 6, 7, 8, 9, 15, 16, 17], [0, 1, 2, 3, 4, 5, 6, 7, 8, 9, 15, 16, 17, 18], [0, 1, 2, 3, 4, 5, 6, 7, 8, 9, 10, 11, 12, 13, 14, 15, 16, 17, 18, 19], [0, 1, 2, 3, 4, 5, 6, 7, 8, 9, 10, 11, 12, 13, 14, 15, 16, 17, 18, 19, 20], [0, 1, 2, 3, 4, 5, 6, 7, 8, 9, 10, 11, 12, 13, 14, 15, 16, 17, 18, 19, 20, 21]] [] (by kernel_rfl) (by kernel_rfl) (fun (ix_ : Nat) (v : Value) (G : GH) => match ix_ with | 0 => v = vi i | 1 => v = .slice A l.length ca | 2 => v = vi l.length | 3 => v = .bool (decide ((i : Int) = (l.length : Int))) | 4 => v = .bool (decide ((i : Int) = (l.length : Int))) | 5 => v = undef | 6 => v = undef | 7 => v = undef | 8 => v = undef | 9 => v = undef | 10 => v = undef | 11 => v = undef | 12 => v = undef | 13 => v = undef | 14 => v = undef | 15 => v = undef | 16 => v = undef | 17 => v = undef | 18 => v = undef | 19 => v = undef | 20 => v = undef | 21 => v = undef | 22 => v = .bool true | _ => True) (fun _ _ _ _ _ h => h) H ?_ ?_
    · clear H; refine (allI_cons ?_ (allI_cons ?_ (allI_cons ?_ (allI_cons ?_ (allI_cons ?_ (allI_cons ?_ (allI_cons ?_ (allI_cons ?_ (allI_cons ?_ (allI_cons ?_ (allI_cons ?_ (allI_cons ?_ (allI_cons ?_ (allI_cons ?_ (allI_cons ?_ (allI_cons ?_ (allI_cons ?_ (allI_cons ?_ (allI_cons ?_ (allI_cons ?_ (allI_cons ?_ (allI_cons ?_ (allI_cons ?_ allI_nil)))))))))))))))))))))))
      · refine opI [] rfl trivial (by kernel_rfl) (fun _ _ _ _ _ h => h) rfl rfl ?_; intro Sd_ a w G1 hG HT H fin; refine s_move H wn rfl rfl ?_; clear H; intro a H; exact fin H (fun _ _ h => h) (rfl)
      · refine opI [] rfl trivial (by kernel_rfl) (fun _ _ _ _ _ h => h) rfl rfl ?_; intro Sd_ a w G1 hG HT H fin; refine s_load ty25run H wn rfl (H.hp.gcell (gcell_mono hG (gcell_mono hGm3 hag))) rfl ?_; clear H; intro a H; exact fin H (fun _ _ h => h) (rfl)
      · refine opI [(1, 45, _)] rfl ⟨fun _ _ h => h, trivial⟩ (by kernel_rfl) (fun _ _ _ _ _ h => h) rfl rfl ?_; intro Sd_ a w G1 hG HT H fin; refine s_len un25run H wn rfl rfl ?_; clear H; intro a H; exact fin H (fun _ _ h => h) (rfl)
      · refine opI [(0, 44, _), (2, 46, _)] rfl ⟨fun _ _ h => h, fun _ _ h => h, trivial⟩ (by kernel_rfl) (fun _ _ _ _ _ h => h) rfl rfl ?_; intro Sd_ a w G1 hG HT H fin; refine s_cmp H wn rfl rfl rfl rfl ?_; clear H; intro a H; exact fin H (fun _ _ h => h) (rfl)
      · refine opI [(3, 47, _)] rfl ⟨fun _ _ h => h, trivial⟩ (by kernel_rfl) (fun _ _ _ _ _ h => h) rfl rfl ?_; intro Sd_ a w G1 hG HT H fin; refine s_move H wn rfl rfl ?_; clear H; intro a H; exact fin H (fun _ _ h => h) (rfl)
      · exact skipI (j := 4) (by kernel_rfl) (fun _ _ _ _ _ h => h) rfl rfl rfl rfl rfl (fun _ _ h => Eq.trans h (congrArg Value.bool (decide_eq_true (Decidable.not_not.1 m0)))) rfl (fun _ => rfl)
      · exact skipI (j := 4) (by kernel_rfl) (fun _ _ _ _ _ h => h) rfl rfl rfl rfl rfl (fun _ _ h => Eq.trans h (congrArg Value.bool (decide_eq_true (Decidable.not_not.1 m0)))) rfl (fun _ => rfl)
      · exact skipI (j := 4) (by kernel_rfl) (fun _ _ _ _ _ h => h) rfl rfl rfl rfl rfl (fun _ _ h => Eq.trans h (congrArg Value.bool (decide_eq_true (Decidable.not_not.1 m0)))) rfl (fun _ => rfl)
      · exact skipI (j := 4) (by kernel_rfl) (fun _ _ _ _ _ h => h) rfl rfl rfl rfl rfl (fun _ _ h => Eq.trans h (congrArg Value.bool (decide_eq_true (Decidable.not_not.1 m0)))) rfl (fun _ => rfl)
      · exact skipI (j := 4) (by kernel_rfl) (fun _ _ _ _ _ h => h) rfl rfl rfl rfl rfl (fun _ _ h => Eq.trans h (congrArg Value.bool (decide_eq_true (Decidable.not_not.1 m0)))) rfl (fun _ => rfl)
      · exact skipUI (j := 9) (by kernel_rfl) (fun _ _ _ _ _ h => h) rfl rfl rfl rfl rfl (fun _ _ h => h) (fun _ => rfl)
      · exact skipUI (j := 9) (by kernel_rfl) (fun _ _ _ _ _ h => h) rfl rfl rfl rfl rfl (fun _ _ h => h) (fun _ => rfl)
      · exact skipUI (j := 9) (by kernel_rfl) (fun _ _ _ _ _ h => h) rfl rfl rfl rfl rfl (fun _ _ h => h) (fun _ => rfl)
      · exact skipUI (j := 9) (by kernel_rfl) (fun _ _ _ _ _ h => h) rfl rfl rfl rfl rfl (fun _ _ h => h) (fun _ => rfl)
      · exact skipUI (j := 9) (by kernel_rfl) (fun _ _ _ _ _ h => h) rfl rfl rfl rfl rfl (fun _ _ h => h) (fun _ => rfl)
      · exact skipUI (j := 9) (by kernel_rfl) (fun _ _ _ _ _ h => h) rfl rfl rfl rfl rfl (fun _ _ h => h) (fun _ => rfl)
      · exact skipUI (j := 9) (by kernel_rfl) (fun _ _ _ _ _ h => h) rfl rfl rfl rfl rfl (fun _ _ h => h) (fun _ => rfl)
      · exact skipUI (j := 9) (by kernel_rfl) (fun _ _ _ _ _ h => h) rfl rfl rfl rfl rfl (fun _ _ h => h) (fun _ => rfl)
      · exact skipUI (j := 9) (by kernel_rfl) (fun _ _ _ _ _ h => h) rfl rfl rfl rfl rfl (fun _ _ h => h) (fun _ => rfl)
      · exact skipUI (j := 9) (by kernel_rfl) (fun _ _ _ _ _ h => h) rfl rfl rfl rfl rfl (fun _ _ h => h) (fun _ => rfl)
      · exact skipUI (j := 9) (by kernel_rfl) (fun _ _ _ _ _ h => h) rfl rfl rfl rfl rfl (fun _ _ h => h) (fun _ => rfl)
      · exact skipI (j := 4) (by kernel_rfl) (fun _ _ _ _ _ h => h) rfl rfl rfl rfl rfl (fun _ _ h => Eq.trans h (congrArg Value.bool (decide_eq_true (Decidable.not_not.1 m0)))) rfl (fun _ => rfl)
      refine opI [(4, 48, _), (21, 65, _)] rfl ⟨fun _ _ h => h, fun _ _ h => h, trivial⟩ (by kernel_rfl) (fun _ _ _ _ _ h => h) rfl rfl ?_; intro Sd_ a w G1 hG HT H fin; refine s_pick_t H wn rfl (decide_eq_true (Decidable.not_not.1 m0)) rfl rfl ?_; clear H; intro a H; exact fin H (fun _ _ h => h) (rfl)
    clear H; intro a w G hGm5 H hv; obtain ⟨u66, hu66, hp66⟩ := hv 22 66 (by decide) rfl; obtain rfl : u66 = .bool true := hp66; have H := H.addS hu66; clear hv; refine wl_nil ⟨rfl, ?_⟩; refine hK37 _ _ ?_; clear hK37; refine c_cond_t H rfl rfl ?_; refine c_region ?_; refine s_load ty25run H wn rfl (H.hp.gcell (gcell_mono hGm5 (gcell_mono hGm3 hbg))) rfl ?_; clear H; intro a H; rw [(hy (by omega)).1] at H; refine s_move H wn rfl rfl ?_; clear H; intro a H; refine s_index un25run ty40run k H wn rfl rfl rfl (by omega) rfl ?_; clear H; intro a H; refine s_assign H wn rfl rfl ?_; clear H; intro a H; refine wl_nil ?_; refine hK36 _ _ ?_; clear hK36; refine c_seq (fun _ hK38 => ?_); refine c_seqR (fun _ hK39 => ?_); refine s_move H wn rfl rfl ?_; clear H; intro a H; refine s_neqnilp un211prm H wn rfl rfl ?_; clear H; intro a H; refine hK39 _ _ ?_; clear hK39; refine c_cond H rfl ?_ ?_
    · intro h71
      try have p71 := of_decide_eq_true h71
      cases h71
    intro h71
    try have p71 := of_decide_eq_false h71
    refine c_skip ?_; refine hK38 _ _ ?_; clear hK38; refine c_seq (fun _ hK40 => ?_); refine c_seqR (fun _ hK41 => ?_); refine s_move H wn rfl rfl ?_; clear H; intro a H; refine s_neqnilp un211prm H wn rfl rfl ?_; clear H; intro a H; refine hK41 _ _ ?_; clear hK41; refine c_cond H rfl ?_ ?_
    · intro h75
      try have p75 := of_decide_eq_true h75
      refine c_region ?_; refine s_move H wn rfl rfl ?_; clear H; intro a H; refine s_add _ H wn rfl rfl rfl (by omega) (by omega) rfl ?_; clear H; intro a H; refine s_assign H wn rfl rfl ?_; clear H; intro a H; refine wl_nil ?_; refine hK40 _ _ ?_; clear hK40; refine c_seq (fun _ hK42 => ?_); obtain ⟨f', rfl⟩ : ∃ f', f = f' + 1 := ⟨f - 1, by omega⟩; have hgm5 := fun b o (h : g b = some o) => hGm5 b o (hGm3 b o h)
      first
        | rw [prF_ab (hx (by omega)).2.1 (hy (by omega)).2.1 n2 m2] at hnow
        | rw [prF_aa (hx (by omega)).2.1 (hy (by omega)).2.1 n2 m2] at hnow
        | rw [prF_bb (hx (by omega)).2.1 (hy (by omega)).2.1 n2] at hnow
        | rw [prF_a (hx (by omega)).2.1 (by omega)] at hnow
        | rw [prF_b (by omega) (hy (by omega)).2.1] at hnow
      have hnow2 := hnow.up hJm hgm5; refine c_region ?_; (iterate 3 refine s_move H wn rfl rfl ?_; clear H; intro a H); refine s_callv (Li := []) (L := Lt) H wn rfl rfl (hcb j1 _ _ _ _ ⟨_, hnow2.head, _, _, rfl, by first | exact rfl | exact ⟨_, _, rfl, gcell_mono hgm5 (hx (by omega)).2.2.1, gcell_mono hgm5 (hx (by omega)).2.2.2⟩, by first | exact rfl | exact ⟨_, _, rfl, gcell_mono hgm5 (hy (by omega)).2.2.1, gcell_mono hgm5 (hy (by omega)).2.2.2⟩⟩ (fun b o h => hgm5 b o (hgm b o h)) hnow2.now (Hp.owns (Li := []) H.hp)) rfl ?_; clear H; rintro v81 G81 Lt81 a w ⟨b81, rfl, hb1, hb2⟩ hm81 H; refine s_not H wn rfl rfl ?_; clear H; intro a H; refine wl_nil ?_; refine hK42 _ _ ?_; clear hK42; refine c_cond H rfl ?_ ?_
      · intro h82
        try have p82 := of_decide_eq_true h82
        refine c_ret ?_; refine (leave0 H Tryz.results187 ?_).1
        first
          | exact H.hp.retD (L' := Lt81) (by repeat (first | exact List.Sublist.refl _ | apply List.Sublist.cons)) (.inr (hb2 (by simpa using h82)))
          | (rw [prF_end (by omega) (by omega)] at hnow
             refine H.hp.retD (L' := Lt) (by repeat (first | exact List.Sublist.refl _ | apply List.Sublist.cons)) (.inl ?_); have h := hnow.len
             simp only [List.length_nil, Nat.add_zero] at h
             rw [← h]
             exact hnow.now)
      intro h82
      try have p82 := of_decide_eq_false h82
      refine c_skip ?_; refine loop_end ((i, k + 1, f', j1 + 1, Lt81, G81)) (by exact (H).sub ⟨rfl, rfl, rfl, rfl, rfl, trivial⟩) ?_ ?_
      · (try dsimp only); exact ⟨by omega, by omega, by omega, fun b o h => hm81 b o (hgm5 b o (hgm b o h)), hnow2.step (hb1 (by simpa using h82))⟩
      first | omega | (dsimp only; omega)
    intro h75
    try have p75 := of_decide_eq_false h75
    cases h75
  intro h17
  try have p17 := of_decide_eq_false h17
  refine c_exit ?_; refine (leave0 H Tryz.results187 ?_).2
  first
    | exact H.hp.retD (L' := Lt81) (by repeat (first | exact List.Sublist.refl _ | apply List.Sublist.cons)) (.inr (hb2 (by simpa using h82)))
    | (rw [prF_end (by omega) (by omega)] at hnow
       refine H.hp.retD (L' := Lt) (by repeat (first | exact List.Sublist.refl _ | apply List.Sublist.cons)) (.inl ?_); have h := hnow.len
       simp only [List.length_nil, Nat.add_zero] at h
       rw [← h]
       exact hnow.now)
end
section
open Go.RowKit
theorem un41sty : Tryz.prog.underlying 41 = some (.slice 100) := by kernel_rfl
theorem ty100sty : Ty Tryz.prog 100 6 72 [.int .i64 0, .int .i64 0, .string ⟨#[]⟩, .int .i64 0, .int .i64 0, .slice none 0 0] true := ⟨by kernel_rfl, by kernel_rfl⟩
theorem fd100_1sty : Fld Tryz.prog 100 1 1 := ⟨by kernel_rfl⟩
theorem fd100_2sty : Fld Tryz.prog 100 2 2 := ⟨by kernel_rfl⟩
theorem fd100_0sty : Fld Tryz.prog 100 0 0 := ⟨by kernel_rfl⟩
theorem en212sty : ∀ args w, (callFunc 212 args).run Tryz.prog w = .ok (.enter 212 args) w := enters Tryz.func212 rfl (by kernel_rfl)
theorem en180sty : ∀ args w, (callFunc 180 args).run Tryz.prog w = .ok (.enter 180 args) w := enters Tryz.func180 rfl (by kernel_rfl)
theorem en213sty : ∀ args w, (callFunc 213 args).run Tryz.prog w = .ok (.enter 213 args) w := enters Tryz.func213 rfl (by kernel_rfl)
theorem en214sty : ∀ args w, (callFunc 214 args).run Tryz.prog w = .ok (.enter 214 args) w := enters Tryz.func214 rfl (by kernel_rfl)
structure StyleD where
  id : Int
  kind : Int
  name : ByteArray
  base : Int
  next : Int
  props : List PropD
def StyleD.dat (x : StyleD) : List Dat := [li x.id, li x.kind, .lf (.string x.name), li x.base, li x.next, .sl 2 (x.props.map PropD.dat)]
theorem style_of {G : GH} {x : StyleD} {cs : List Value} (h : RepRow G x.dat cs) : ∃ A c, cs = [vi x.id, vi x.kind, .string x.name, vi x.base, vi x.next, .slice A x.props.length c] ∧ RepV G (.sl 2 (x.props.map PropD.dat)) (.slice A x.props.length c) := by
  simp only [StyleD.dat, RepRow] at h
  obtain ⟨v1, _, rfl, h1, v2, _, rfl, h2, v3, _, rfl, h3, v4, _, rfl, h4, v5, _, rfl, h5, v6, _, rfl, h6, rfl⟩ := h
  simp only [RepV] at h1 h2 h3 h4 h5
  obtain ⟨rfl, -⟩ := h1; obtain ⟨rfl, -⟩ := h2; obtain ⟨rfl, -⟩ := h3; obtain ⟨rfl, -⟩ := h4; obtain ⟨rfl, -⟩ := h5; obtain ⟨A, c, rfl, -, -, -⟩ := h6.slice; rw [List.length_map] at *; exact ⟨A, c, rfl, h6⟩
theorem style_at {G : GH} {l : List StyleD} {A : Option Addr} {n c k : Nat} (hv : RepV G (.sl 6 (l.map StyleD.dat)) (.slice A n c)) (hk : k < l.length) : ∃ b o pA pc, A = some ⟨b, o, none⟩ ∧ (∀ j u, [vi l[k].id, vi l[k].kind, .string l[k].name, vi l[k].base, vi l[k].next, .slice pA l[k].props.length pc][j]? = some u → gcell G b (o + k * 6 + j) = some u) ∧ RepV G (.sl 2 (l[k].props.map PropD.dat)) (.slice pA l[k].props.length pc) ∧
    RepRow G l[k].dat [vi l[k].id, vi l[k].kind, .string l[k].name, vi l[k].base, vi l[k].next, .slice pA l[k].props.length pc] := by
  obtain ⟨A', c', he, _, _, hg⟩ := hv.slice
  injection he with e1 e2 e3
  subst e1; obtain ⟨b, o, cs, h1, h2, h3, h4⟩ := hg k l[k].dat (by simp [hk]); obtain ⟨pA, pc, rfl, hp⟩ := style_of h4; exact ⟨b, o, pA, pc, h1, h3, hp, h4⟩
def okB (x : Int) : Bool := decide (32 ≤ x ∧ x ≤ 126)
/-- Whether a string is the name of a style. -/
def nameF (s : ByteArray) (k : Nat) : Bool := (List.range k).all fun i => okB (byteAt s i)
def isNameS (s : ByteArray) : Bool := decide (s.size ≠ 0 ∧ s.size ≤ 40 ∧ byteAt s 0 ≠ 32 ∧ byteAt s (s.size - 1) ≠ 32) && nameF s s.size
theorem nameF_succ (s : ByteArray) (k : Nat) : nameF s (k + 1) = (nameF s k && okB (byteAt s k)) := by simp [nameF, List.range_succ]
theorem nameF_no {s : ByteArray} {k : Nat} (hk : k < s.size) (h : okB (byteAt s k) = false) : nameF s s.size = false := by
  rw [nameF, List.all_eq_false]; exact ⟨k, by simpa using hk, by simp [h]⟩
theorem isName_spec (G : GH) (w0 : World) (hG : Hold G w0) (s : ByteArray) (hs : s.size ≤ 4611686018427387904) : Calls Tryz.prog 177 #[.string s] w0 (Ret w0 G fun u G' => u = .bool (isNameS s)) := by
  refine enter (N := 41) (T := [(0, _)]) (F := fun k => k < w0.heap.size) (L := []) Tryz.func177 rfl Tryz.ntmps177 rfl rfl hG (fun _ h => h) (fun _ h => by cases h) (fun _ h => by cases h) (fun _ h => by cases h) List.Pairwise.nil ?_; intro a H; refine c_seqR (fun _ hK1 => ?_); refine s_assign H wn rfl rfl ?_; clear H; intro a H; refine hK1 _ _ ?_; clear hK1; refine c_seq (fun _ hK2 => ?_); refine c_seqR (fun _ hK3 => ?_); refine s_move H wn rfl rfl ?_; clear H; intro a H; refine s_lens un9cp H wn rfl rfl ?_; clear H; intro a H; refine s_cmp H wn rfl rfl rfl rfl ?_; clear H; intro a H; refine s_move H wn rfl rfl ?_; clear H; intro a H; refine s_split H 7 rfl ?_ ?_
  · intro h7
    try have p7 := of_decide_eq_true h7
    (iterate 3 refine s_skip H rfl rfl h7 rfl ?_; clear H; intro a H); refine s_pick_t H wn rfl h7 rfl rfl ?_; clear H; intro a H; refine s_move H wn rfl rfl ?_; clear H; intro a H; (iterate 3 refine s_skip H rfl rfl rfl rfl ?_; clear H; intro a H); refine s_pick_t H wn rfl rfl rfl rfl ?_; clear H; intro a H; refine s_move H wn rfl rfl ?_; clear H; intro a H; (iterate 6 refine s_skip H rfl rfl rfl rfl ?_; clear H; intro a H); refine s_pick_t H wn rfl rfl rfl rfl ?_; clear H; intro a H; refine hK3 _ _ ?_; clear hK3; refine c_cond_t H rfl rfl ?_; refine c_seqR (fun _ hK4 => ?_); refine s_assign H wn rfl rfl ?_; clear H; intro a H; refine hK4 _ _ ?_; clear hK4; refine c_ret ?_; refine (leave1 H Tryz.results177 (.cons (rv_tmp H rfl) .nil) ?_).1
    first
      | exact H.hp.ret (congrArg Value.bool (by rw [isNameS, decide_eq_false (by omega), Bool.false_and]))
      | exact H.hp.ret (congrArg Value.bool (by rw [isNameS, decide_eq_true (by omega), show s.size = k by omega, hno]; rfl))
      | exact H.hp.ret (congrArg Value.bool (by rw [isNameS, nameF_no (k := k) (by omega) (decide_eq_false (by omega)), Bool.and_false]))
  intro h7
  try have p7 := of_decide_eq_false h7
  refine s_move H (wg H rfl rfl h7) rfl rfl ?_; clear H; intro a H; refine s_lens un9cp H (wg H rfl rfl h7) rfl rfl ?_; clear H; intro a H; refine s_cmp H (wg H rfl rfl h7) rfl rfl rfl rfl ?_; clear H; intro a H; refine s_pick_f H wn rfl h7 rfl rfl ?_; clear H; intro a H; refine s_move H wn rfl rfl ?_; clear H; intro a H; refine s_split H 12 rfl ?_ ?_
  · intro h12
    try have p12 := of_decide_eq_true h12
    (iterate 3 refine s_skip H rfl rfl h12 rfl ?_; clear H; intro a H); refine s_pick_t H wn rfl h12 rfl rfl ?_; clear H; intro a H; refine s_move H wn rfl rfl ?_; clear H; intro a H; (iterate 6 refine s_skip H rfl rfl rfl rfl ?_; clear H; intro a H); refine s_pick_t H wn rfl rfl rfl rfl ?_; clear H; intro a H; refine hK3 _ _ ?_; clear hK3; refine c_cond_t H rfl rfl ?_; refine c_seqR (fun _ hK5 => ?_); refine s_assign H wn rfl rfl ?_; clear H; intro a H; refine hK5 _ _ ?_; clear hK5; refine c_ret ?_; refine (leave1 H Tryz.results177 (.cons (rv_tmp H rfl) .nil) ?_).1
    first
      | exact H.hp.ret (congrArg Value.bool (by rw [isNameS, decide_eq_false (by omega), Bool.false_and]))
      | exact H.hp.ret (congrArg Value.bool (by rw [isNameS, decide_eq_true (by omega), show s.size = k by omega, hno]; rfl))
      | exact H.hp.ret (congrArg Value.bool (by rw [isNameS, nameF_no (k := k) (by omega) (decide_eq_false (by omega)), Bool.and_false]))
  intro h12
  try have p12 := of_decide_eq_false h12
  refine s_move H (wg H rfl rfl h12) rfl rfl ?_; clear H; intro a H; refine s_indexs 0 un9cp H (wg H rfl rfl h12) rfl rfl rfl (by omega) rfl ?_; clear H; intro a H; rw [← byteAt_lt] at H; refine s_cmp H (wg H rfl rfl h12) rfl rfl rfl rfl ?_; clear H; intro a H; refine s_pick_f H wn rfl h12 rfl rfl ?_; clear H; intro a H; refine s_move H wn rfl rfl ?_; clear H; intro a H; refine s_split H 17 rfl ?_ ?_
  · intro h17
    try have p17 := of_decide_eq_true h17
    (iterate 6 refine s_skip H rfl rfl h17 rfl ?_; clear H; intro a H); refine s_pick_t H wn rfl h17 rfl rfl ?_; clear H; intro a H; refine hK3 _ _ ?_; clear hK3; refine c_cond_t H rfl rfl ?_; refine c_seqR (fun _ hK6 => ?_); refine s_assign H wn rfl rfl ?_; clear H; intro a H; refine hK6 _ _ ?_; clear hK6; refine c_ret ?_; refine (leave1 H Tryz.results177 (.cons (rv_tmp H rfl) .nil) ?_).1
    first
      | exact H.hp.ret (congrArg Value.bool (by rw [isNameS, decide_eq_false (by omega), Bool.false_and]))
      | exact H.hp.ret (congrArg Value.bool (by rw [isNameS, decide_eq_true (by omega), show s.size = k by omega, hno]; rfl))
      | exact H.hp.ret (congrArg Value.bool (by rw [isNameS, nameF_no (k := k) (by omega) (decide_eq_false (by omega)), Bool.and_false]))
  intro h17
  try have p17 := of_decide_eq_false h17
  (iterate 2 refine s_move H (wg H rfl rfl h17) rfl rfl ?_; clear H; intro a H); refine s_lens un9cp H (wg H rfl rfl h17) rfl rfl ?_; clear H; intro a H; refine s_sub _ H (wg H rfl rfl h17) rfl rfl rfl (by omega) (by omega) rfl ?_; clear H; intro a H; refine s_indexs (s.size - 1) un9cp H (wg H rfl rfl h17) rfl rfl (by omega) (by omega) rfl ?_; clear H; intro a H; rw [← byteAt_lt] at H; refine s_cmp H (wg H rfl rfl h17) rfl rfl rfl rfl ?_; clear H; intro a H; refine s_pick_f H wn rfl h17 rfl rfl ?_; clear H; intro a H; refine hK3 _ _ ?_; clear hK3; refine c_cond H rfl ?_ ?_
  · intro h24
    try have p24 := of_decide_eq_true h24
    refine c_seqR (fun _ hK7 => ?_); refine s_assign H wn rfl rfl ?_; clear H; intro a H; refine hK7 _ _ ?_; clear hK7; refine c_ret ?_; refine (leave1 H Tryz.results177 (.cons (rv_tmp H rfl) .nil) ?_).1
    first
      | exact H.hp.ret (congrArg Value.bool (by rw [isNameS, decide_eq_false (by omega), Bool.false_and]))
      | exact H.hp.ret (congrArg Value.bool (by rw [isNameS, decide_eq_true (by omega), show s.size = k by omega, hno]; rfl))
      | exact H.hp.ret (congrArg Value.bool (by rw [isNameS, nameF_no (k := k) (by omega) (decide_eq_false (by omega)), Bool.and_false]))
  intro h24
  try have p24 := of_decide_eq_false h24
  refine c_skip ?_; refine hK2 _ _ ?_; clear hK2; refine c_seq (fun _ hK8 => ?_); refine c_seqR (fun _ hK9 => ?_); refine s_move H wn rfl rfl ?_; clear H; intro a H; refine s_lens un9cp H wn rfl rfl ?_; clear H; intro a H; refine s_move H wn rfl rfl ?_; clear H; intro a H; refine hK9 _ _ ?_; clear hK9; refine c_block ?_; skip; refine c_loopS (ι := Nat) (Tc := [(0, _), (26, _)]) (Lc := []) (fun (gh : Nat) => [(27, vi gh)]) (fun (gh : Nat) => []) (fun (gh : Nat) => G) (fun (gh : Nat) => gh ≤ s.size ∧ nameF s gh = true) (fun (gh : Nat) => s.size - gh) (0) (by exact (H).sub ⟨rfl, rfl, rfl, trivial⟩) ?_ ?_
  · exact ⟨Nat.zero_le _, rfl⟩
  clear H; intro gh a w hI H; obtain ⟨k, hgh⟩ : ∃ x, x = gh := ⟨_, rfl⟩; subst hgh; obtain ⟨hk, hno⟩ := hI; dsimp only [List.cons_append, List.nil_append, List.append_nil] at H; refine c_seqR (fun _ hK10 => ?_); refine s_cmp H wn rfl rfl rfl rfl ?_; clear H; intro a H; refine hK10 _ _ ?_; clear hK10; refine c_seq (fun _ hK11 => ?_); refine c_cond H rfl ?_ ?_
  · intro h28
    try have p28 := of_decide_eq_true h28
    refine c_skip ?_; refine hK11 _ _ ?_; clear hK11; refine c_seq (fun _ hK12 => ?_); refine c_block ?_; refine c_seqR (fun _ hK13 => ?_); refine s_move H wn rfl rfl ?_; clear H; intro a H; refine s_assign H wn rfl rfl ?_; clear H; intro a H; refine hK13 _ _ ?_; clear hK13; refine c_seqR (fun _ hK14 => ?_); (iterate 2 refine s_move H wn rfl rfl ?_; clear H; intro a H); refine s_indexs k un9cp H wn rfl rfl rfl (by omega) rfl ?_; clear H; intro a H; rw [← byteAt_lt] at H; refine s_cmp H wn rfl rfl rfl rfl ?_; clear H; intro a H; refine s_move H wn rfl rfl ?_; clear H; intro a H; refine s_split H 34 rfl ?_ ?_
    · intro h34
      try have p34 := of_decide_eq_true h34
      (iterate 4 refine s_skip H rfl rfl h34 rfl ?_; clear H; intro a H); refine s_pick_t H wn rfl h34 rfl rfl ?_; clear H; intro a H; refine hK14 _ _ ?_; clear hK14; refine c_cond_t H rfl rfl ?_; refine c_seqR (fun _ hK15 => ?_); refine s_assign H wn rfl rfl ?_; clear H; intro a H; refine hK15 _ _ ?_; clear hK15; refine c_ret ?_; refine (leave1 H Tryz.results177 (.cons (rv_tmp H rfl) .nil) ?_).1
      first
        | exact H.hp.ret (congrArg Value.bool (by rw [isNameS, decide_eq_false (by omega), Bool.false_and]))
        | exact H.hp.ret (congrArg Value.bool (by rw [isNameS, decide_eq_true (by omega), show s.size = k by omega, hno]; rfl))
        | exact H.hp.ret (congrArg Value.bool (by rw [isNameS, nameF_no (k := k) (by omega) (decide_eq_false (by omega)), Bool.and_false]))
    intro h34
    try have p34 := of_decide_eq_false h34
    (iterate 2 refine s_move H (wg H rfl rfl h34) rfl rfl ?_; clear H; intro a H); refine s_indexs k un9cp H (wg H rfl rfl h34) rfl rfl rfl (by omega) rfl ?_; clear H; intro a H; rw [← byteAt_lt] at H; refine s_cmp H (wg H rfl rfl h34) rfl rfl rfl rfl ?_; clear H; intro a H; refine s_pick_f H wn rfl h34 rfl rfl ?_; clear H; intro a H; refine hK14 _ _ ?_; clear hK14; refine c_cond H rfl ?_ ?_
    · intro h39
      try have p39 := of_decide_eq_true h39
      refine c_seqR (fun _ hK16 => ?_); refine s_assign H wn rfl rfl ?_; clear H; intro a H; refine hK16 _ _ ?_; clear hK16; refine c_ret ?_; refine (leave1 H Tryz.results177 (.cons (rv_tmp H rfl) .nil) ?_).1
      first
        | exact H.hp.ret (congrArg Value.bool (by rw [isNameS, decide_eq_false (by omega), Bool.false_and]))
        | exact H.hp.ret (congrArg Value.bool (by rw [isNameS, decide_eq_true (by omega), show s.size = k by omega, hno]; rfl))
        | exact H.hp.ret (congrArg Value.bool (by rw [isNameS, nameF_no (k := k) (by omega) (decide_eq_false (by omega)), Bool.and_false]))
    intro h39
    try have p39 := of_decide_eq_false h39
    refine c_skip ?_; refine hK12 _ _ ?_; clear hK12; refine c_region ?_; refine s_add _ H wn rfl rfl rfl (by omega) (by omega) rfl ?_; clear H; intro a H; refine s_move H wn rfl rfl ?_; clear H; intro a H; refine wl_nil ?_; refine loop_end ((k + 1)) (by exact (H).sub ⟨rfl, rfl, rfl, trivial⟩) ?_ ?_
    · exact ⟨by omega, by rw [nameF_succ, hno]; simp [okB]; omega⟩
    first | omega | (dsimp only; omega)
  intro h28
  try have p28 := of_decide_eq_false h28
  refine c_exit ?_; refine hK8 _ _ ?_; clear hK8; refine c_seqR (fun _ hK17 => ?_); refine s_assign H wn rfl rfl ?_; clear H; intro a H; refine hK17 _ _ ?_; clear hK17; refine c_ret ?_; refine (leave1 H Tryz.results177 (.cons (rv_tmp H rfl) .nil) ?_).1
  first
    | exact H.hp.ret (congrArg Value.bool (by rw [isNameS, decide_eq_false (by omega), Bool.false_and]))
    | exact H.hp.ret (congrArg Value.bool (by rw [isNameS, decide_eq_true (by omega), show s.size = k by omega, hno]; rfl))
    | exact H.hp.ret (congrArg Value.bool (by rw [isNameS, nameF_no (k := k) (by omega) (decide_eq_false (by omega)), Bool.and_false]))
theorem indexStyle_spec (G : GH) (w0 : World) (hG : Hold G w0) (l : List StyleD) (p : StyleD → Bool) (v fv : Value) (hv : RepV G (.sl 6 (l.map StyleD.dat)) v) (hf : ∀ x ∈ l, Tester fv G x.dat (p x)) :
    Calls Tryz.prog 212 #[v, fv] w0 (Ret w0 G fun u G' => u = vi (ixI (l.findIdx? p))) := by
  obtain ⟨A, c, rfl, hc1, hc2, -⟩ := hv.slice; have hml : maxLen = 9223372036854775807 := rfl; rw [List.length_map] at *; refine enter (N := 19) (T := [(0, _), (1, _)]) (F := fun k => k < w0.heap.size) (L := []) Tryz.func212 rfl Tryz.ntmps212 rfl rfl hG (fun _ h => h) (fun _ h => by cases h) (fun _ h => by cases h) (fun _ h => by cases h) List.Pairwise.nil ?_; intro a H; refine c_seqR (fun _ hK1 => ?_); refine s_assign H wn rfl rfl ?_; clear H; intro a H; refine hK1 _ _ ?_; clear hK1; refine c_seq (fun _ hK2 => ?_); refine c_seqR (fun _ hK3 => ?_); refine s_move H wn rfl rfl ?_; clear H; intro a H; refine s_len un41sty H wn rfl rfl ?_; clear H; intro a H; refine s_move H wn rfl rfl ?_; clear H; intro a H; refine hK3 _ _ ?_; clear hK3; refine c_block ?_; skip; refine c_loopS (ι := Nat × GH) (Tc := [(0, _), (1, _), (7, _)]) (Lc := []) (fun (gh : Nat × GH) => [(8, vi gh.1)]) (fun (gh : Nat × GH) => []) (fun (gh : Nat × GH) => gh.2) (fun (gh : Nat × GH) => gh.1 ≤ l.length ∧ (l.take gh.1).findIdx? p = none ∧ (∀ b o, G b = some o → gh.2 b = some o)) (fun (gh : Nat × GH) => l.length - gh.1) ((0, G)) (by exact (H).sub ⟨rfl, rfl, rfl, rfl, trivial⟩) ?_ ?_
  · exact ⟨by omega, rfl, fun _ _ h => h⟩
  clear H; intro gh a w hI H; obtain ⟨k, g⟩ := gh; dsimp only at hI H; obtain ⟨hk, hno, hgm⟩ := hI; dsimp only [List.cons_append, List.nil_append, List.append_nil] at H; refine c_seqR (fun _ hK4 => ?_); refine s_cmp H wn rfl rfl rfl rfl ?_; clear H; intro a H; refine hK4 _ _ ?_; clear hK4; refine c_seq (fun _ hK5 => ?_); refine c_cond H rfl ?_ ?_
  · intro h9
    try have p9 := of_decide_eq_true h9
    have hk2 : k < l.length := by omega
    obtain ⟨b, o, pA, pc, rfl, hrow, hp, hrep⟩ := style_at (hv.mono hgm) hk2; refine c_skip ?_; refine hK5 _ _ ?_; clear hK5; refine c_seq (fun _ hK6 => ?_); refine c_block ?_; refine c_seqR (fun _ hK7 => ?_); refine s_move H wn rfl rfl ?_; clear H; intro a H; refine s_assign H wn rfl rfl ?_; clear H; intro a H; refine hK7 _ _ ?_; clear hK7; refine c_seqR (fun _ hK8 => ?_); (iterate 3 refine s_move H wn rfl rfl ?_; clear H; intro a H); refine s_index un41sty ty100sty _ H wn rfl rfl rfl (by first | assumption | omega) rfl ?_; clear H; intro a H; refine s_loada ty100sty (cs := [_, _, _, _, _, _]) H wn rfl rfl (fun j v hj => H.hp.gcell (hrow j v hj)) rfl ?_; clear H; intro a H; refine s_callv0 H wn rfl rfl (hf _ (List.getElem_mem hk2) _ _ _ hgm H.hp.ro hrep) rfl ?_; clear H; rintro v16 G16 a w rfl hm16 H; refine hK8 _ _ ?_; clear hK8; refine c_cond H rfl ?_ ?_
    · intro h16
      try have p16 := of_decide_eq_true h16
      refine c_seqR (fun _ hK9 => ?_); refine s_move H wn rfl rfl ?_; clear H; intro a H; refine s_assign H wn rfl rfl ?_; clear H; intro a H; refine hK9 _ _ ?_; clear hK9; refine c_ret ?_; refine (leave1 H Tryz.results212 (.cons (rv_tmp H rfl) .nil) ?_).1
      first
        | exact H.hp.ret (by rw [idx_stop hk2 hno h16]; rfl)
        | exact H.hp.ret (by rw [show l.take k = l from List.take_of_length_le (by omega)] at hno; rw [hno]; rfl)
    intro h16
    try have p16 := of_decide_eq_false h16
    refine c_skip ?_; refine hK6 _ _ ?_; clear hK6; refine c_region ?_; refine s_add _ H wn rfl rfl rfl (by omega) (by omega) rfl ?_; clear H; intro a H; refine s_move H wn rfl rfl ?_; clear H; intro a H; refine wl_nil ?_; refine loop_end ((k + 1, G16)) (by exact (H).sub ⟨rfl, rfl, rfl, rfl, trivial⟩) ?_ ?_
    · (try dsimp only); exact ⟨by omega, idx_next hk2 hno h16, fun b o h => hm16 b o (hgm b o h)⟩
    first | omega | (dsimp only; omega)
  intro h9
  try have p9 := of_decide_eq_false h9
  refine c_exit ?_; refine hK2 _ _ ?_; clear hK2; refine c_seqR (fun _ hK10 => ?_); refine s_assign H wn rfl rfl ?_; clear H; intro a H; refine hK10 _ _ ?_; clear hK10; refine c_ret ?_; refine (leave1 H Tryz.results212 (.cons (rv_tmp H rfl) .nil) ?_).1
  first
    | exact H.hp.ret (by rw [idx_stop hk2 hno h16]; rfl)
    | exact H.hp.ret (by rw [show l.take k = l from List.take_of_length_le (by omega)] at hno; rw [hno]; rfl)
def nmEq (p q : ByteArray) : Bool := p.toList == q.toList
theorem findName1 {G : GH} {bk bn : Nat} {kind : Int} {name : ByteArray} (hk : gcell G bk 0 = some (vi kind)) (hn : gcell G bn 0 = some (.string name)) (x : StyleD) : Tester (.func (.func 213) #[] #[.pointer (some ⟨bk, 0, none⟩), .pointer (some ⟨bn, 0, none⟩)]) G x.dat (decide (x.kind = kind) && nmEq x.name name) := by
  intro G1 w0 cs hm hG hr; refine callV_func (caps := [.pointer (some ⟨bk, 0, none⟩), .pointer (some ⟨bn, 0, none⟩)]) en213sty ?_; obtain ⟨pA, pc, rfl, -⟩ := style_of hr; replace hk := gcell_mono hm hk; replace hn := gcell_mono hm hn; refine enter (N := 15) (T := [(0, _), (1, _), (2, _)]) (F := fun k => k < w0.heap.size) (L := []) Tryz.func213 rfl Tryz.ntmps213 rfl rfl hG (fun _ h => h) (fun _ h => by cases h) (fun _ h => by cases h) (fun _ h => by cases h) List.Pairwise.nil ?_; intro a H; refine c_seqR (fun _ hK1 => ?_); refine s_box (cs := [_, _, _, _, _, _]) H wn rfl rfl rfl ?_; clear H; intro b3 a w hb3 H; refine s_assign H wn rfl rfl ?_; clear H; intro a H; refine hK1 _ _ ?_; clear hK1; refine c_seqR (fun _ hK2 => ?_); refine s_field fd100_1sty H wn rfl rfl ?_; clear H; intro a H; refine s_load ty3run H wn rfl (H.hp.ocell 0 rfl rfl) rfl ?_; clear H; intro a H; refine s_load ty3run H wn rfl (H.hp.gcell (by assumption)) rfl ?_; clear H; intro a H; refine s_cmp H wn rfl rfl rfl rfl ?_; clear H; intro a H; refine s_move H wn rfl rfl ?_; clear H; intro a H; refine s_split H 9 rfl ?_ ?_
  · intro h9
    try have p9 := of_decide_eq_true h9
    refine s_field fd100_2sty H (wg H rfl rfl h9) rfl rfl ?_; clear H; intro a H; refine s_load ty9run H (wg H rfl rfl h9) rfl (H.hp.ocell 0 rfl rfl) rfl ?_; clear H; intro a H; refine s_load ty9run H (wg H rfl rfl h9) rfl (H.hp.gcell (by assumption)) rfl ?_; clear H; intro a H; refine s_eqstr H (wg H rfl rfl h9) rfl rfl rfl ?_; clear H; intro a H; refine s_pick_t H wn rfl h9 rfl rfl ?_; clear H; intro a H; refine s_assign H wn rfl rfl ?_; clear H; intro a H; refine hK2 _ _ ?_; clear hK2; refine c_ret ?_; refine (leave1 H Tryz.results213 (.cons (rv_tmp H rfl) .nil) ?_).1; exact H.hp.ret (by unfold nmEq; simp_all)
  intro h9
  try have p9 := of_decide_eq_false h9
  (iterate 4 refine s_skip H rfl rfl h9 rfl ?_; clear H; intro a H); refine s_pick_f H wn rfl h9 rfl rfl ?_; clear H; intro a H; refine s_assign H wn rfl rfl ?_; clear H; intro a H; refine hK2 _ _ ?_; clear hK2; refine c_ret ?_; refine (leave1 H Tryz.results213 (.cons (rv_tmp H rfl) .nil) ?_).1; exact H.hp.ret (by unfold nmEq; simp_all)
theorem find1 {G : GH} {bi : Nat} {id : Int} (hb : gcell G bi 0 = some (vi id)) (x : StyleD) : Tester (.func (.func 214) #[] #[.pointer (some ⟨bi, 0, none⟩)]) G x.dat (decide (x.id = id)) := by
  intro G1 w0 cs hm hG hr; refine callV_func (caps := [.pointer (some ⟨bi, 0, none⟩)]) en214sty ?_; obtain ⟨pA, pc, rfl, -⟩ := style_of hr; replace hb := gcell_mono hm hb; refine enter (N := 8) (T := [(0, _), (1, _)]) (F := fun k => k < w0.heap.size) (L := []) Tryz.func214 rfl Tryz.ntmps214 rfl rfl hG (fun _ h => h) (fun _ h => by cases h) (fun _ h => by cases h) (fun _ h => by cases h) List.Pairwise.nil ?_; intro a H; refine c_seqR (fun _ hK1 => ?_); refine s_box (cs := [_, _, _, _, _, _]) H wn rfl rfl rfl ?_; clear H; intro b2 a w hb2 H; refine s_assign H wn rfl rfl ?_; clear H; intro a H; refine hK1 _ _ ?_; clear hK1; refine c_seqR (fun _ hK2 => ?_); refine s_field fd100_0sty H wn rfl rfl ?_; clear H; intro a H; refine s_load ty3run H wn rfl (H.hp.ocell 0 rfl rfl) rfl ?_; clear H; intro a H; refine s_load ty3run H wn rfl (H.hp.gcell (by assumption)) rfl ?_; clear H; intro a H; refine s_cmp H wn rfl rfl rfl rfl ?_; clear H; intro a H; refine s_assign H wn rfl rfl ?_; clear H; intro a H; refine hK2 _ _ ?_; clear hK2; refine c_ret ?_; refine (leave1 H Tryz.results214 (.cons (rv_tmp H rfl) .nil) ?_).1; exact H.hp.ret rfl
def findName (l : List StyleD) (kind : Int) (name : ByteArray) : Option Nat := l.findIdx? fun x => decide (x.kind = kind) && nmEq x.name name
def findId (l : List StyleD) (id : Int) : Option Nat := l.findIdx? fun x => decide (x.id = id)
theorem ixI_ge (o : Option Nat) : decide (0 ≤ ixI o) = o.isSome := by cases o <;> simp [ixI]
theorem findName_spec (G : GH) (w0 : World) (hG : Hold G w0) (l : List StyleD) (kind : Int) (name : ByteArray) (v : Value) (hv : RepV G (.sl 6 (l.map StyleD.dat)) v) :
    Calls Tryz.prog 178 #[v, vi kind, .string name] w0 (Ret w0 G fun u G' => u = .tuple #[vi (max (ixI (findName l kind name)) 0), .bool (findName l kind name).isSome]) := by
  obtain ⟨A, c, rfl, hc1, hc2, -⟩ := hv.slice; rw [List.length_map] at *; refine enter (N := 16) (T := [(0, _), (1, _), (2, _)]) (F := fun k => k < w0.heap.size) (L := []) Tryz.func178 rfl Tryz.ntmps178 rfl rfl hG (fun _ h => h) (fun _ h => by cases h) (fun _ h => by cases h) (fun _ h => by cases h) List.Pairwise.nil ?_; intro a H; refine c_seqR (fun _ hK1 => ?_); refine s_box (cs := [_]) H wn rfl rfl rfl ?_; clear H; intro b4 a w hb4 H; refine s_box (cs := [_]) H wn rfl rfl rfl ?_; clear H; intro b5 a w hb5 H; (iterate 2 refine s_assign H wn rfl rfl ?_; clear H; intro a H); refine hK1 _ _ ?_; clear hK1; refine c_seq (fun _ hK2 => ?_); obtain ⟨Ga, hma, hb5', H⟩ := H.giveBox; obtain ⟨Gb, hmb, hb4', H⟩ := H.giveBox
  have q4 : gcell Gb b4 0 = some (vi kind) := by unfold gcell; rw [hb4']; rfl
  have q5 : gcell Gb b5 0 = some (.string name) := by unfold gcell; rw [hmb _ _ hb5']; rfl
  refine c_region ?_; refine s_move H wn rfl rfl ?_; clear H; intro a H; refine s_makeFunc H wn rfl rfl ?_; clear H; intro a H; refine s_call en212sty H wn rfl (indexStyle_spec _ _ H.hp.ro l (fun x => decide (x.kind = kind) && nmEq x.name name) _ _ ((hv.mono hma).mono hmb) (fun x _ => findName1 q4 q5 x)) rfl ?_; clear H; rintro v11 G11 a w rfl hm11 H; refine s_assign H wn rfl rfl ?_; clear H; intro a H; refine wl_nil ?_; refine hK2 _ _ ?_; clear hK2; refine c_seqR (fun _ hK3 => ?_); refine s_move H wn rfl rfl ?_; clear H; intro a H; refine s_max H wn rfl rfl rfl ?_; clear H; intro a H; refine s_move H wn rfl rfl ?_; clear H; intro a H; refine s_cmp H wn rfl rfl rfl rfl ?_; clear H; intro a H; (iterate 2 refine s_assign H wn rfl rfl ?_; clear H; intro a H); refine hK3 _ _ ?_; clear hK3; refine c_ret ?_; refine (leaveT H Tryz.results178 (.cons (rv_tmp H rfl) (.cons (rv_tmp H rfl) .nil)) ?_).1; exact H.hp.ret (by rw [← ixI_ge]; rfl)
theorem find_id_spec (G : GH) (w0 : World) (hG : Hold G w0) (l : List StyleD) (id : Int) (v : Value) (hv : RepV G (.sl 6 (l.map StyleD.dat)) v) :
    Calls Tryz.prog 180 #[v, vi id] w0 (Ret w0 G fun u G' => u = .tuple #[vi (max (ixI (findId l id)) 0), .bool (findId l id).isSome]) := by
  obtain ⟨A, c, rfl, hc1, hc2, -⟩ := hv.slice; rw [List.length_map] at *; refine enter (N := 14) (T := [(0, _), (1, _)]) (F := fun k => k < w0.heap.size) (L := []) Tryz.func180 rfl Tryz.ntmps180 rfl rfl hG (fun _ h => h) (fun _ h => by cases h) (fun _ h => by cases h) (fun _ h => by cases h) List.Pairwise.nil ?_; intro a H; refine c_seqR (fun _ hK1 => ?_); refine s_box (cs := [_]) H wn rfl rfl rfl ?_; clear H; intro b3 a w hb3 H; (iterate 2 refine s_assign H wn rfl rfl ?_; clear H; intro a H); refine hK1 _ _ ?_; clear hK1; refine c_seq (fun _ hK2 => ?_); obtain ⟨Ga, hma, hb3', H⟩ := H.giveBox
  have q3 : gcell Ga b3 0 = some (vi id) := by unfold gcell; rw [hb3']; rfl
  refine c_region ?_; refine s_move H wn rfl rfl ?_; clear H; intro a H; refine s_makeFunc H wn rfl rfl ?_; clear H; intro a H; refine s_call en212sty H wn rfl (indexStyle_spec _ _ H.hp.ro l (fun x => decide (x.id = id)) _ _ (hv.mono hma) (fun x _ => find1 q3 x)) rfl ?_; clear H; rintro v9 G9 a w rfl hm9 H; refine s_assign H wn rfl rfl ?_; clear H; intro a H; refine wl_nil ?_; refine hK2 _ _ ?_; clear hK2; refine c_seqR (fun _ hK3 => ?_); refine s_move H wn rfl rfl ?_; clear H; intro a H; refine s_max H wn rfl rfl rfl ?_; clear H; intro a H; refine s_move H wn rfl rfl ?_; clear H; intro a H; refine s_cmp H wn rfl rfl rfl rfl ?_; clear H; intro a H; (iterate 2 refine s_assign H wn rfl rfl ?_; clear H; intro a H); refine hK3 _ _ ?_; clear hK3; refine c_ret ?_; refine (leaveT H Tryz.results180 (.cons (rv_tmp H rfl) (.cons (rv_tmp H rfl) .nil)) ?_).1; exact H.hp.ret (by rw [← ixI_ge]; rfl)
/-- Whether there is a style of a kind with an id. -/
def isS (l : List StyleD) (kind id : Int) : Bool := match findId l id with | some i => decide ((l[i]?.map StyleD.kind) = some kind) | none => false
theorem is_spec (G : GH) (w0 : World) (hG : Hold G w0) (l : List StyleD) (kind id : Int) (v : Value) (hv : RepV G (.sl 6 (l.map StyleD.dat)) v) :
    Calls Tryz.prog 104 #[v, vi kind, vi id] w0 (Ret w0 G fun u G' => u = .bool (isS l kind id)) := by
  obtain ⟨A, c, rfl, hc1, hc2, -⟩ := hv.slice; rw [List.length_map] at *; refine enter (N := 25) (T := [(0, _), (1, _), (2, _)]) (F := fun k => k < w0.heap.size) (L := []) Tryz.func104 rfl Tryz.ntmps104 rfl rfl hG (fun _ h => h) (fun _ h => by cases h) (fun _ h => by cases h) (fun _ h => by cases h) List.Pairwise.nil ?_; intro a H; refine c_seqR (fun _ hK1 => ?_); refine s_assign H wn rfl rfl ?_; clear H; intro a H; refine hK1 _ _ ?_; clear hK1; refine c_seqR (fun _ hK2 => ?_); (iterate 2 refine s_move H wn rfl rfl ?_; clear H; intro a H); refine s_call en180sty H wn rfl (find_id_spec _ _ H.hp.ro l id _ hv) rfl ?_; clear H; rintro v12 G12 a w rfl hm12 H; obtain ⟨o, ho⟩ : ∃ o, o = findId l id := ⟨_, rfl⟩; rw [← ho] at H; refine s_move H wn rfl rfl ?_; clear H; intro a H; (iterate 2 refine s_extract H wn rfl rfl rfl ?_; clear H; intro a H); (iterate 2 refine s_assign H wn rfl rfl ?_; clear H; intro a H); refine hK2 _ _ ?_; clear hK2; refine c_seqR (fun _ hK3 => ?_); (iterate 2 refine s_move H wn rfl rfl ?_; clear H; intro a H); refine s_split H 16 rfl ?_ ?_
  · intro h16
    try have p16 := of_decide_eq_true h16
    obtain ⟨i, rfl⟩ := Option.isSome_iff_exists.1 h16
    have hil : i < l.length := by
      obtain ⟨hi, -⟩ := List.findIdx?_eq_some_iff_getElem.1 ho.symm; exact hi
    rw [show max (ixI (some i)) 0 = (i : Int) by simp [ixI]] at H; obtain ⟨b, o', pA, pc, rfl, hrow, hp, hrep⟩ := style_at (hv.mono hm12) hil; have r1 : gcell G12 b (o' + i * 6 + 1) = some (vi l[i].kind) := hrow 1 _ rfl; (iterate 2 refine s_move H (wg H rfl rfl h16) rfl rfl ?_; clear H; intro a H); refine s_index un41sty ty100sty _ H (wg H rfl rfl h16) rfl rfl rfl (by first | assumption | omega) rfl ?_; clear H; intro a H; refine s_field fd100_1sty H (wg H rfl rfl h16) rfl rfl ?_; clear H; intro a H; refine s_load ty3run H (wg H rfl rfl h16) rfl (H.hp.gcell (by assumption)) rfl ?_; clear H; intro a H; refine s_move H (wg H rfl rfl h16) rfl rfl ?_; clear H; intro a H; refine s_cmp H (wg H rfl rfl h16) rfl rfl rfl rfl ?_; clear H; intro a H; refine s_pick_t H wn rfl h16 rfl rfl ?_; clear H; intro a H; refine s_assign H wn rfl rfl ?_; clear H; intro a H; refine hK3 _ _ ?_; clear hK3; refine c_ret ?_; refine (leave1 H Tryz.results104 (.cons (rv_tmp H rfl) .nil) ?_).1
    first
      | exact H.hp.ret (congrArg Value.bool (by rw [isS, ← ho]; dsimp only; rw [List.getElem?_eq_getElem hil]; simp))
      | exact H.hp.ret (congrArg Value.bool (by rw [isS, ← ho]; cases o <;> simp_all))
  intro h16
  try have p16 := of_decide_eq_false h16
  (iterate 7 refine s_skip H rfl rfl h16 rfl ?_; clear H; intro a H); refine s_pick_f H wn rfl h16 rfl rfl ?_; clear H; intro a H; refine s_assign H wn rfl rfl ?_; clear H; intro a H; refine hK3 _ _ ?_; clear hK3; refine c_ret ?_; refine (leave1 H Tryz.results104 (.cons (rv_tmp H rfl) .nil) ?_).1
  first
    | exact H.hp.ret (congrArg Value.bool (by rw [isS, ← ho]; dsimp only; rw [List.getElem?_eq_getElem hil]; simp))
    | exact H.hp.ret (congrArg Value.bool (by rw [isS, ← ho]; cases o <;> simp_all))
end
section
open Go.RowKit
theorem en177stz : ∀ args w, (callFunc 177 args).run Tryz.prog w = .ok (.enter 177 args) w := enters Tryz.func177 rfl (by kernel_rfl)
theorem en178stz : ∀ args w, (callFunc 178 args).run Tryz.prog w = .ok (.enter 178 args) w := enters Tryz.func178 rfl (by kernel_rfl)
theorem fd100_5stz : Fld Tryz.prog 100 5 5 := ⟨by kernel_rfl⟩
theorem en179stz : ∀ args w, (callFunc 179 args).run Tryz.prog w = .ok (.enter 179 args) w := enters Tryz.func179 rfl (by kernel_rfl)
theorem en44stz : ∀ args w, (callFunc 44 args).run Tryz.prog w = .ok (.enter 44 args) w := enters Tryz.func44 rfl (by kernel_rfl)
theorem RepV.pre {G : GH} {sz : Nat} {rows : List (List Dat)} {A : Option Addr} {n c : Nat} (h : RepV G (.sl sz rows) (.slice A n c)) (k : Nat) (hk : k ≤ rows.length) : RepV G (.sl sz (rows.take k)) (.slice A k c) := by
  have h := h.part 0 k (Nat.zero_le _) hk
  have e : (if c = 0 then A else A.map (·.add (0 * sz))) = A := by
    split
    · rfl
    cases A <;> simp [Addr.add]
  rw [e] at h
  simpa using h
theorem element_spec (G : GH) (w0 : World) (hG : Hold G w0) (kind : Int) : Calls Tryz.prog 179 #[vi kind] w0 (Ret w0 G fun u G' => u = vi (if kind = 1 then 2 else 1)) := by
  refine enter (N := 5) (T := [(0, _)]) (F := fun k => k < w0.heap.size) (L := []) Tryz.func179 rfl Tryz.ntmps179 rfl rfl hG (fun _ h => h) (fun _ h => by cases h) (fun _ h => by cases h) (fun _ h => by cases h) List.Pairwise.nil ?_; intro a H; refine c_seqR (fun _ hK1 => ?_); refine s_assign H wn rfl rfl ?_; clear H; intro a H; refine hK1 _ _ ?_; clear hK1; refine c_seq (fun _ hK2 => ?_); refine c_seqR (fun _ hK3 => ?_); refine s_move H wn rfl rfl ?_; clear H; intro a H; refine s_cmp H wn rfl rfl rfl rfl ?_; clear H; intro a H; refine hK3 _ _ ?_; clear hK3; refine c_cond H rfl ?_ ?_
  · intro h4
    try have p4 := of_decide_eq_true h4
    refine c_seqR (fun _ hK4 => ?_); refine s_assign H wn rfl rfl ?_; clear H; intro a H; refine hK4 _ _ ?_; clear hK4; refine c_ret ?_; refine (leave1 H Tryz.results179 (.cons (rv_tmp H rfl) .nil) ?_).1; exact H.hp.ret (by first | (rw [if_pos (by omega)]; done) | rw [if_neg (by omega)])
  intro h4
  try have p4 := of_decide_eq_false h4
  refine c_skip ?_; refine hK2 _ _ ?_; clear hK2; refine c_seqR (fun _ hK5 => ?_); refine s_assign H wn rfl rfl ?_; clear H; intro a H; refine hK5 _ _ ?_; clear hK5; refine c_ret ?_; refine (leave1 H Tryz.results179 (.cons (rv_tmp H rfl) .nil) ?_).1; exact H.hp.ret (by first | (rw [if_pos (by omega)]; done) | rw [if_neg (by omega)])
def prevS (l : List StyleD) (k : Nat) : Option Int := if k = 0 then none else l[k - 1]?.map StyleD.id
theorem prevS_0 {l : List StyleD} {k : Nat} (h : k = 0) : prevS l k = none := if_pos h
def badK (k : Int) : Bool := decide (k = 20) || decide (k = 1)
/-- The error of a style itself, behind others. -/
def ownE (q : Option Int) (dup : Bool) (s : StyleD) : Int :=
  if s.id < 1 ∨ 1073741824 < s.id then 18 else if q = some s.id then 7 else if ltB q s.id = true then 6 else if s.kind ≠ 1 ∧ s.kind ≠ 2 then 3 else if isNameS s.name = false then 13 else if dup = true then 7
  else if s.props.any (fun p => badK p.key) = true then 4 else chkPS (if s.kind = 1 then 2 else 1) s.props
def ownS (l : List StyleD) (k : Nat) (s : StyleD) : Int := ownE (prevS l k) (findName (l.take k) s.kind s.name).isSome s
set_option maxHeartbeats 1000000 in
theorem own_spec (G : GH) (w0 : World) (hG : Hold G w0) (l : List StyleD) (k : Nat) (v : Value) (hv : RepV G (.sl 6 (l.map StyleD.dat)) v) (hk : k < l.length) (hs : l[k].name.size ≤ 4611686018427387904) :
    Calls Tryz.prog 103 #[v, vi k] w0 (Ret w0 G fun u G' => u = vi (ownS l k l[k])) := by
  obtain ⟨A, c, rfl, hc1, hc2, -⟩ := hv.slice; have hml : maxLen = 9223372036854775807 := rfl; rw [List.length_map] at *; obtain ⟨b, o, pA, pc, rfl, hrow, hp, hrep⟩ := style_at hv hk; obtain ⟨x, hx⟩ : ∃ x, x = l[k] := ⟨_, rfl⟩; rw [← hx] at hs hrow hp hrep ⊢; have hdp : ∀ j v, [vi x.id, vi x.kind, .string x.name, vi x.base, vi x.next, .slice pA x.props.length pc][j]? = some v → gcell G b (o + k * 6 + j) = some v := hrow; obtain ⟨_, _, he0, hpc1, hpc2, -⟩ := hp.slice
  injection he0 with _ he1 he2
  rw [List.length_map] at *; subst he2
  obtain ⟨pk, hpk⟩ : ∃ pk, 0 < k → gcell G b (o + (k - 1) * 6 + 0) = some (vi pk) ∧ prevS l k = some pk := by
    by_cases h0 : 0 < k
    · obtain ⟨b', o', _, _, he, hr', -, -⟩ := style_at hv (show k - 1 < l.length by omega)
      injection he with he
      injection he with e1 e2 e3
      subst e1; subst e2; exact ⟨_, fun _ => ⟨hr' 0 _ rfl, by rw [prevS, if_neg (by omega), List.getElem?_eq_getElem (by omega)]; rfl⟩⟩
    exact ⟨0, fun h => absurd h h0⟩
  refine enter (N := 99) (T := [(0, _), (1, _)]) (F := fun k => k < w0.heap.size) (L := []) Tryz.func103 rfl Tryz.ntmps103 rfl rfl hG (fun _ h => h) (fun _ h => by cases h) (fun _ h => by cases h) (fun _ h => by cases h) List.Pairwise.nil ?_; intro a H; refine c_seqR (fun _ hK1 => ?_); refine s_assign H wn rfl rfl ?_; clear H; intro a H; refine hK1 _ _ ?_; clear hK1; refine c_seqR (fun _ hK2 => ?_); (iterate 2 refine s_move H wn rfl rfl ?_; clear H; intro a H); refine s_index un41sty ty100sty _ H wn rfl rfl rfl (by first | assumption | omega) rfl ?_; clear H; intro a H; refine s_loada ty100sty (cs := [_, _, _, _, _, _]) H wn rfl rfl (fun j v hj => H.hp.gcell (hrow j v hj)) rfl ?_; clear H; intro a H; refine s_alloc ty100sty H wn rfl ?_; clear H; intro b5 a w hb5 H; refine s_store ty100sty 0 (vs := [_, _, _, _, _, _]) _ H wn rfl rfl rfl rfl rfl rfl rfl rfl ?_; clear H; intro w H; dsimp only [List.set, setRow] at H; refine hK2 _ _ ?_; clear hK2; refine c_seqJ (ι := GH) (Tc := [(0, _), (1, _), (5, _)]) (Lc := [(_, _)]) (fun (gh : GH) => []) (fun (gh : GH) => []) (fun (gh : GH) => gh) (fun (gh : GH) => ¬ (x.id < 1 ∨ 1073741824 < x.id) ∧ ¬ prevS l k = some x.id ∧ ¬ ltB (prevS l k) x.id = true ∧ ¬ (x.kind ≠ 1 ∧ x.kind ≠ 2) ∧ ¬ isNameS x.name = false ∧ (∀ b o, G b = some o → gh b = some o)) (by exact (H).sub ⟨rfl, rfl, rfl, trivial⟩) ?_ ?_
  · skip; refine c_block ?_; refine c_seqR (fun _ hK3 => ?_); refine s_field fd100_0sty H wn rfl rfl ?_; clear H; intro a H; refine s_load ty3run H wn rfl (H.hp.ocell 0 rfl rfl) rfl ?_; clear H; intro a H; refine s_cmp H wn rfl rfl rfl rfl ?_; clear H; intro a H; refine s_move H wn rfl rfl ?_; clear H; intro a H; refine s_split H 18 rfl ?_ ?_
    · intro h18
      try have p18 := of_decide_eq_true h18
      (iterate 3 refine s_skip H rfl rfl h18 rfl ?_; clear H; intro a H); refine s_pick_t H wn rfl h18 rfl rfl ?_; clear H; intro a H; refine s_assign H wn rfl rfl ?_; clear H; intro a H; refine hK3 _ _ ?_; clear hK3; refine c_cond_t H rfl rfl ?_; refine c_seqR (fun _ hK4 => ?_); refine s_assign H wn rfl rfl ?_; clear H; intro a H; refine hK4 _ _ ?_; clear hK4; refine c_ret ?_; refine (leave1 H Tryz.results103 (.cons (rv_tmp H rfl) .nil) ?_).1
      first
        | exact H.hp.ret (congrArg vi e0.symm)
        | exact H.hp.ret (congrArg vi e4.symm)
        | exact H.hp.ret (congrArg vi e7.symm)
        | exact H.hp.ret (congrArg vi e13.symm)
        | exact H.hp.ret (congrArg vi e3.symm)
        | exact H.hp.ret (congrArg vi e6.symm)
        | exact H.hp.ret (congrArg vi (by rw [ownS, ownE, if_pos (by omega)]))
    intro h18
    try have p18 := of_decide_eq_false h18
    refine s_field fd100_0sty H (wg H rfl rfl h18) rfl rfl ?_; clear H; intro a H; refine s_load ty3run H (wg H rfl rfl h18) rfl (H.hp.ocell 0 rfl rfl) rfl ?_; clear H; intro a H; refine s_cmp H (wg H rfl rfl h18) rfl rfl rfl rfl ?_; clear H; intro a H; refine s_pick_f H wn rfl h18 rfl rfl ?_; clear H; intro a H; refine s_assign H wn rfl rfl ?_; clear H; intro a H; refine hK3 _ _ ?_; clear hK3; refine c_cond H rfl ?_ ?_
    · intro h14
      try have p14 := of_decide_eq_true h14
      refine c_seqR (fun _ hK5 => ?_); refine s_assign H wn rfl rfl ?_; clear H; intro a H; refine hK5 _ _ ?_; clear hK5; refine c_ret ?_; refine (leave1 H Tryz.results103 (.cons (rv_tmp H rfl) .nil) ?_).1
      first
        | exact H.hp.ret (congrArg vi e0.symm)
        | exact H.hp.ret (congrArg vi e4.symm)
        | exact H.hp.ret (congrArg vi e7.symm)
        | exact H.hp.ret (congrArg vi e13.symm)
        | exact H.hp.ret (congrArg vi e3.symm)
        | exact H.hp.ret (congrArg vi e6.symm)
        | exact H.hp.ret (congrArg vi (by rw [ownS, ownE, if_pos (by omega)]))
    intro h14
    try have p14 := of_decide_eq_false h14
    refine c_seq (fun _ hK6 => ?_)
    by_cases c0 : 0 < (k : Int)
    · skip
      by_cases c1 : x.id = pk
      · skip; refine c_drawI (hmx) [[], [0], [0, 1], [0, 1, 2], [0, 1, 2, 3], [0, 1, 2], [0, 1, 2], [0, 1, 2, 6], [0, 1, 2, 5, 6, 7], [0, 1, 2, 5, 6, 7, 8], [0, 1, 2, 5, 6, 7, 8, 9], [0, 1, 2, 3, 4, 5, 6, 7, 8, 9, 10], [0, 1, 2, 3, 4, 5, 6, 7, 8, 9, 10, 11], [0, 1, 2, 3, 4, 5, 6, 7, 8, 9, 10, 11, 12]] [13] (by kernel_rfl) (by kernel_rfl) (fun (ix_ : Nat) (v : Value) (G : GH) => match ix_ with | 0 => v = vi k | 1 => v = .bool (decide (0 < (k : Int))) | 2 => v = .bool (decide (0 < (k : Int))) | 3 => v = .pointer (some ⟨b5, 0, none⟩) | 4 => v = vi x.id | 5 => v = .slice (some ⟨b, o, none⟩) l.length c | 6 => v = vi k | 7 => v = vi ((k - 1 : Nat) : Int) | 8 => v = .pointer (some ⟨b, o + (k - 1) * 6, none⟩) | 9 => v = .pointer (some ⟨b, o + (k - 1) * 6 + 0, none⟩) | 10 => v = vi pk | 11 => v = .bool (decide (x.id = pk)) | 12 => v = .bool (decide (x.id = pk)) | _ => True) (fun _ _ _ _ _ h => h) H ?_ ?_
        · clear H; refine (allI_cons ?_ (allI_cons ?_ (allI_cons ?_ (allI_cons ?_ (allI_cons ?_ (allI_cons ?_ (allI_cons ?_ (allI_cons ?_ (allI_cons ?_ (allI_cons ?_ (allI_cons ?_ (allI_cons ?_ (allI_cons ?_ (allI_cons ?_ allI_nil))))))))))))))
          · refine opI [] rfl trivial (by kernel_rfl) (fun _ _ _ _ _ h => h) rfl rfl ?_; intro Sd_ a w G1 hG HT H fin; refine s_move H wn rfl rfl ?_; clear H; intro a H; exact fin H (fun _ _ h => h) (rfl)
          · refine opI [(0, 24, _)] rfl ⟨fun _ _ h => h, trivial⟩ (by kernel_rfl) (fun _ _ _ _ _ h => h) rfl rfl ?_; intro Sd_ a w G1 hG HT H fin; refine s_cmp H wn rfl rfl rfl rfl ?_; clear H; intro a H; exact fin H (fun _ _ h => h) (rfl)
          · refine opI [(1, 25, _)] rfl ⟨fun _ _ h => h, trivial⟩ (by kernel_rfl) (fun _ _ _ _ _ h => h) rfl rfl ?_; intro Sd_ a w G1 hG HT H fin; refine s_move H wn rfl rfl ?_; clear H; intro a H; exact fin H (fun _ _ h => h) (rfl)
          · refine opI [(2, 26, _)] rfl ⟨fun _ _ h => h, trivial⟩ (by kernel_rfl) (fun _ _ _ _ _ h => h) rfl rfl ?_; intro Sd_ a w G1 hG HT H fin; refine s_field fd100_0sty H (wg H rfl rfl (decide_eq_true c0)) rfl rfl ?_; clear H; intro a H; exact fin H (fun _ _ h => h) (rfl)
          · refine opI [(3, 27, _), (2, 26, _)] rfl ⟨fun _ _ h => h, fun _ _ h => h, trivial⟩ (by kernel_rfl) (fun _ _ _ _ _ h => h) rfl rfl ?_; intro Sd_ a w G1 hG HT H fin; refine s_load ty3run H (wg H rfl rfl (decide_eq_true c0)) rfl (H.hp.ocell 0 rfl rfl) rfl ?_; clear H; intro a H; exact fin H (fun _ _ h => h) (rfl)
          · refine opI [(2, 26, _)] rfl ⟨fun _ _ h => h, trivial⟩ (by kernel_rfl) (fun _ _ _ _ _ h => h) rfl rfl ?_; intro Sd_ a w G1 hG HT H fin; refine s_move H (wg H rfl rfl (decide_eq_true c0)) rfl rfl ?_; clear H; intro a H; exact fin H (fun _ _ h => h) (rfl)
          · refine opI [(2, 26, _)] rfl ⟨fun _ _ h => h, trivial⟩ (by kernel_rfl) (fun _ _ _ _ _ h => h) rfl rfl ?_; intro Sd_ a w G1 hG HT H fin; refine s_move H (wg H rfl rfl (decide_eq_true c0)) rfl rfl ?_; clear H; intro a H; exact fin H (fun _ _ h => h) (rfl)
          · refine opI [(6, 30, _), (2, 26, _)] rfl ⟨fun _ _ h => h, fun _ _ h => h, trivial⟩ (by kernel_rfl) (fun _ _ _ _ _ h => h) rfl rfl ?_; intro Sd_ a w G1 hG HT H fin; refine s_sub _ H (wg H rfl rfl (decide_eq_true c0)) rfl rfl rfl (by omega) (by omega) rfl ?_; clear H; intro a H; exact fin H (fun _ _ h => h) (by first | rfl | exact congrArg vi (by omega))
          · refine opI [(5, 29, _), (7, 31, _), (2, 26, _)] rfl ⟨fun _ _ h => h, fun _ _ h => h, fun _ _ h => h, trivial⟩ (by kernel_rfl) (fun _ _ _ _ _ h => h) rfl rfl ?_; intro Sd_ a w G1 hG HT H fin; refine s_index un41sty ty100sty _ H (wg H rfl rfl (decide_eq_true c0)) rfl rfl rfl (by first | assumption | omega) rfl ?_; clear H; intro a H; exact fin H (fun _ _ h => h) (rfl)
          · refine opI [(8, 32, _), (2, 26, _)] rfl ⟨fun _ _ h => h, fun _ _ h => h, trivial⟩ (by kernel_rfl) (fun _ _ _ _ _ h => h) rfl rfl ?_; intro Sd_ a w G1 hG HT H fin; refine s_field fd100_0sty H (wg H rfl rfl (decide_eq_true c0)) rfl rfl ?_; clear H; intro a H; exact fin H (fun _ _ h => h) (rfl)
          · refine opI [(9, 33, _), (2, 26, _)] rfl ⟨fun _ _ h => h, fun _ _ h => h, trivial⟩ (by kernel_rfl) (fun _ _ _ _ _ h => h) rfl rfl ?_; intro Sd_ a w G1 hG HT H fin; refine s_load ty3run H (wg H rfl rfl (decide_eq_true c0)) rfl (H.hp.gcell (gcell_mono hG (hpk (by omega)).1)) rfl ?_; clear H; intro a H; exact fin H (fun _ _ h => h) (rfl)
          · refine opI [(4, 28, _), (10, 34, _), (2, 26, _)] rfl ⟨fun _ _ h => h, fun _ _ h => h, fun _ _ h => h, trivial⟩ (by kernel_rfl) (fun _ _ _ _ _ h => h) rfl rfl ?_; intro Sd_ a w G1 hG HT H fin; refine s_cmp H (wg H rfl rfl (decide_eq_true c0)) rfl rfl rfl rfl ?_; clear H; intro a H; exact fin H (fun _ _ h => h) (rfl)
          · refine opI [(2, 26, _), (11, 35, _)] rfl ⟨fun _ _ h => h, fun _ _ h => h, trivial⟩ (by kernel_rfl) (fun _ _ _ _ _ h => h) rfl rfl ?_; intro Sd_ a w G1 hG HT H fin; refine s_pick_t H wn rfl (decide_eq_true c0) rfl rfl ?_; clear H; intro a H; exact fin H (fun _ _ h => h) (rfl)
          intro _ _ _ _ hB; exact absurd hB (by decide)
        clear H; intro a w G hGm4 H hv; obtain ⟨u36, hu36, hp36⟩ := hv 12 36 (by decide) rfl; obtain rfl : u36 = .bool (decide (x.id = pk)) := hp36; have H := H.addS hu36; clear hv; refine s_assign H wn rfl rfl ?_; clear H; intro a H; refine wl_nil ⟨rfl, ?_⟩; refine hK6 _ _ ?_; clear hK6; refine c_cond_t H rfl (decide_eq_true c1) ?_; refine c_seq (fun _ hK7 => ?_)
        have e7 : ownS l k x = 7 := by rw [ownS, ownE, if_neg (by omega), if_pos (by rw [(hpk (by omega)).2, c1])]
        refine c_region ?_; refine s_assign H wn rfl rfl ?_; clear H; intro a H; refine wl_nil ?_; refine hK7 _ _ ?_; clear hK7; refine c_ret ?_; refine (leave1 H Tryz.results103 (.cons (rv_tmp H rfl) .nil) ?_).1
        first
          | exact H.hp.ret (congrArg vi e0.symm)
          | exact H.hp.ret (congrArg vi e4.symm)
          | exact H.hp.ret (congrArg vi e7.symm)
          | exact H.hp.ret (congrArg vi e13.symm)
          | exact H.hp.ret (congrArg vi e3.symm)
          | exact H.hp.ret (congrArg vi e6.symm)
          | exact H.hp.ret (congrArg vi (by rw [ownS, ownE, if_pos (by omega)]))
      skip; refine c_drawI (hmx) [[], [0], [0, 1], [0, 1, 2], [0, 1, 2, 3], [0, 1, 2], [0, 1, 2], [0, 1, 2, 6], [0, 1, 2, 5, 6, 7], [0, 1, 2, 5, 6, 7, 8], [0, 1, 2, 5, 6, 7, 8, 9], [0, 1, 2, 3, 4, 5, 6, 7, 8, 9, 10], [0, 1, 2, 3, 4, 5, 6, 7, 8, 9, 10, 11], [0, 1, 2, 3, 4, 5, 6, 7, 8, 9, 10, 11, 12]] [13] (by kernel_rfl) (by kernel_rfl) (fun (ix_ : Nat) (v : Value) (G : GH) => match ix_ with | 0 => v = vi k | 1 => v = .bool (decide (0 < (k : Int))) | 2 => v = .bool (decide (0 < (k : Int))) | 3 => v = .pointer (some ⟨b5, 0, none⟩) | 4 => v = vi x.id | 5 => v = .slice (some ⟨b, o, none⟩) l.length c | 6 => v = vi k | 7 => v = vi ((k - 1 : Nat) : Int) | 8 => v = .pointer (some ⟨b, o + (k - 1) * 6, none⟩) | 9 => v = .pointer (some ⟨b, o + (k - 1) * 6 + 0, none⟩) | 10 => v = vi pk | 11 => v = .bool (decide (x.id = pk)) | 12 => v = .bool (decide (x.id = pk)) | _ => True) (fun _ _ _ _ _ h => h) H ?_ ?_
      · clear H; refine (allI_cons ?_ (allI_cons ?_ (allI_cons ?_ (allI_cons ?_ (allI_cons ?_ (allI_cons ?_ (allI_cons ?_ (allI_cons ?_ (allI_cons ?_ (allI_cons ?_ (allI_cons ?_ (allI_cons ?_ (allI_cons ?_ (allI_cons ?_ allI_nil))))))))))))))
        · refine opI [] rfl trivial (by kernel_rfl) (fun _ _ _ _ _ h => h) rfl rfl ?_; intro Sd_ a w G1 hG HT H fin; refine s_move H wn rfl rfl ?_; clear H; intro a H; exact fin H (fun _ _ h => h) (rfl)
        · refine opI [(0, 24, _)] rfl ⟨fun _ _ h => h, trivial⟩ (by kernel_rfl) (fun _ _ _ _ _ h => h) rfl rfl ?_; intro Sd_ a w G1 hG HT H fin; refine s_cmp H wn rfl rfl rfl rfl ?_; clear H; intro a H; exact fin H (fun _ _ h => h) (rfl)
        · refine opI [(1, 25, _)] rfl ⟨fun _ _ h => h, trivial⟩ (by kernel_rfl) (fun _ _ _ _ _ h => h) rfl rfl ?_; intro Sd_ a w G1 hG HT H fin; refine s_move H wn rfl rfl ?_; clear H; intro a H; exact fin H (fun _ _ h => h) (rfl)
        · refine opI [(2, 26, _)] rfl ⟨fun _ _ h => h, trivial⟩ (by kernel_rfl) (fun _ _ _ _ _ h => h) rfl rfl ?_; intro Sd_ a w G1 hG HT H fin; refine s_field fd100_0sty H (wg H rfl rfl (decide_eq_true c0)) rfl rfl ?_; clear H; intro a H; exact fin H (fun _ _ h => h) (rfl)
        · refine opI [(3, 27, _), (2, 26, _)] rfl ⟨fun _ _ h => h, fun _ _ h => h, trivial⟩ (by kernel_rfl) (fun _ _ _ _ _ h => h) rfl rfl ?_; intro Sd_ a w G1 hG HT H fin; refine s_load ty3run H (wg H rfl rfl (decide_eq_true c0)) rfl (H.hp.ocell 0 rfl rfl) rfl ?_; clear H; intro a H; exact fin H (fun _ _ h => h) (rfl)
        · refine opI [(2, 26, _)] rfl ⟨fun _ _ h => h, trivial⟩ (by kernel_rfl) (fun _ _ _ _ _ h => h) rfl rfl ?_; intro Sd_ a w G1 hG HT H fin; refine s_move H (wg H rfl rfl (decide_eq_true c0)) rfl rfl ?_; clear H; intro a H; exact fin H (fun _ _ h => h) (rfl)
        · refine opI [(2, 26, _)] rfl ⟨fun _ _ h => h, trivial⟩ (by kernel_rfl) (fun _ _ _ _ _ h => h) rfl rfl ?_; intro Sd_ a w G1 hG HT H fin; refine s_move H (wg H rfl rfl (decide_eq_true c0)) rfl rfl ?_; clear H; intro a H; exact fin H (fun _ _ h => h) (rfl)
        · refine opI [(6, 30, _), (2, 26, _)] rfl ⟨fun _ _ h => h, fun _ _ h => h, trivial⟩ (by kernel_rfl) (fun _ _ _ _ _ h => h) rfl rfl ?_; intro Sd_ a w G1 hG HT H fin; refine s_sub _ H (wg H rfl rfl (decide_eq_true c0)) rfl rfl rfl (by omega) (by omega) rfl ?_; clear H; intro a H; exact fin H (fun _ _ h => h) (by first | rfl | exact congrArg vi (by omega))
        · refine opI [(5, 29, _), (7, 31, _), (2, 26, _)] rfl ⟨fun _ _ h => h, fun _ _ h => h, fun _ _ h => h, trivial⟩ (by kernel_rfl) (fun _ _ _ _ _ h => h) rfl rfl ?_; intro Sd_ a w G1 hG HT H fin; refine s_index un41sty ty100sty _ H (wg H rfl rfl (decide_eq_true c0)) rfl rfl rfl (by first | assumption | omega) rfl ?_; clear H; intro a H; exact fin H (fun _ _ h => h) (rfl)
        · refine opI [(8, 32, _), (2, 26, _)] rfl ⟨fun _ _ h => h, fun _ _ h => h, trivial⟩ (by kernel_rfl) (fun _ _ _ _ _ h => h) rfl rfl ?_; intro Sd_ a w G1 hG HT H fin; refine s_field fd100_0sty H (wg H rfl rfl (decide_eq_true c0)) rfl rfl ?_; clear H; intro a H; exact fin H (fun _ _ h => h) (rfl)
        · refine opI [(9, 33, _), (2, 26, _)] rfl ⟨fun _ _ h => h, fun _ _ h => h, trivial⟩ (by kernel_rfl) (fun _ _ _ _ _ h => h) rfl rfl ?_; intro Sd_ a w G1 hG HT H fin; refine s_load ty3run H (wg H rfl rfl (decide_eq_true c0)) rfl (H.hp.gcell (gcell_mono hG (hpk (by omega)).1)) rfl ?_; clear H; intro a H; exact fin H (fun _ _ h => h) (rfl)
        · refine opI [(4, 28, _), (10, 34, _), (2, 26, _)] rfl ⟨fun _ _ h => h, fun _ _ h => h, fun _ _ h => h, trivial⟩ (by kernel_rfl) (fun _ _ _ _ _ h => h) rfl rfl ?_; intro Sd_ a w G1 hG HT H fin; refine s_cmp H (wg H rfl rfl (decide_eq_true c0)) rfl rfl rfl rfl ?_; clear H; intro a H; exact fin H (fun _ _ h => h) (rfl)
        · refine opI [(2, 26, _), (11, 35, _)] rfl ⟨fun _ _ h => h, fun _ _ h => h, trivial⟩ (by kernel_rfl) (fun _ _ _ _ _ h => h) rfl rfl ?_; intro Sd_ a w G1 hG HT H fin; refine s_pick_t H wn rfl (decide_eq_true c0) rfl rfl ?_; clear H; intro a H; exact fin H (fun _ _ h => h) (rfl)
        intro _ _ _ _ hB; exact absurd hB (by decide)
      clear H; intro a w G hGm4 H hv; obtain ⟨u36, hu36, hp36⟩ := hv 12 36 (by decide) rfl; obtain rfl : u36 = .bool (decide (x.id = pk)) := hp36; have H := H.addS hu36; clear hv; refine s_assign H wn rfl rfl ?_; clear H; intro a H; refine wl_nil ⟨rfl, ?_⟩; refine hK6 _ _ ?_; clear hK6; refine c_cond_f H rfl (decide_eq_false c1) ?_; refine c_seq (fun _ hK8 => ?_)
      have q1 : ¬ (0 < (k : Int) ∧ x.id = pk) := by first | exact fun h => c1 h.2 | exact fun h => c0 h.1
      have q1' : ¬ prevS l k = some x.id := fun h => q1 (by
        by_cases h0 : 0 < k
        · rw [(hpk h0).2] at h
          injection h with h
          exact ⟨by omega, h.symm⟩
        rw [prevS_0 (by omega)] at h
        cases h)
      by_cases c3 : x.id < pk
      · skip; refine c_drawI (hmx) [[], [0], [0, 1], [0, 1, 2], [0, 1, 2, 3], [0, 1, 2], [0, 1, 2], [0, 1, 2, 6], [0, 1, 2, 5, 6, 7], [0, 1, 2, 5, 6, 7, 8], [0, 1, 2, 5, 6, 7, 8, 9], [0, 1, 2, 3, 4, 5, 6, 7, 8, 9, 10], [0, 1, 2, 3, 4, 5, 6, 7, 8, 9, 10, 11], [0, 1, 2, 3, 4, 5, 6, 7, 8, 9, 10, 11, 12]] [13] (by kernel_rfl) (by kernel_rfl) (fun (ix_ : Nat) (v : Value) (G : GH) => match ix_ with | 0 => v = vi k | 1 => v = .bool (decide (0 < (k : Int))) | 2 => v = .bool (decide (0 < (k : Int))) | 3 => v = .pointer (some ⟨b5, 0, none⟩) | 4 => v = vi x.id | 5 => v = .slice (some ⟨b, o, none⟩) l.length c | 6 => v = vi k | 7 => v = vi ((k - 1 : Nat) : Int) | 8 => v = .pointer (some ⟨b, o + (k - 1) * 6, none⟩) | 9 => v = .pointer (some ⟨b, o + (k - 1) * 6 + 0, none⟩) | 10 => v = vi pk | 11 => v = .bool (decide (x.id < pk)) | 12 => v = .bool (decide (x.id < pk)) | _ => True) (fun _ _ _ _ _ h => h) H ?_ ?_
        · clear H; refine (allI_cons ?_ (allI_cons ?_ (allI_cons ?_ (allI_cons ?_ (allI_cons ?_ (allI_cons ?_ (allI_cons ?_ (allI_cons ?_ (allI_cons ?_ (allI_cons ?_ (allI_cons ?_ (allI_cons ?_ (allI_cons ?_ (allI_cons ?_ allI_nil))))))))))))))
          · refine opI [] rfl trivial (by kernel_rfl) (fun _ _ _ _ _ h => h) rfl rfl ?_; intro Sd_ a w G1 hG HT H fin; refine s_move H wn rfl rfl ?_; clear H; intro a H; exact fin H (fun _ _ h => h) (rfl)
          · refine opI [(0, 38, _)] rfl ⟨fun _ _ h => h, trivial⟩ (by kernel_rfl) (fun _ _ _ _ _ h => h) rfl rfl ?_; intro Sd_ a w G1 hG HT H fin; refine s_cmp H wn rfl rfl rfl rfl ?_; clear H; intro a H; exact fin H (fun _ _ h => h) (rfl)
          · refine opI [(1, 39, _)] rfl ⟨fun _ _ h => h, trivial⟩ (by kernel_rfl) (fun _ _ _ _ _ h => h) rfl rfl ?_; intro Sd_ a w G1 hG HT H fin; refine s_move H wn rfl rfl ?_; clear H; intro a H; exact fin H (fun _ _ h => h) (rfl)
          · refine opI [(2, 40, _)] rfl ⟨fun _ _ h => h, trivial⟩ (by kernel_rfl) (fun _ _ _ _ _ h => h) rfl rfl ?_; intro Sd_ a w G1 hG HT H fin; refine s_field fd100_0sty H (wg H rfl rfl (decide_eq_true c0)) rfl rfl ?_; clear H; intro a H; exact fin H (fun _ _ h => h) (rfl)
          · refine opI [(3, 41, _), (2, 40, _)] rfl ⟨fun _ _ h => h, fun _ _ h => h, trivial⟩ (by kernel_rfl) (fun _ _ _ _ _ h => h) rfl rfl ?_; intro Sd_ a w G1 hG HT H fin; refine s_load ty3run H (wg H rfl rfl (decide_eq_true c0)) rfl (H.hp.ocell 0 rfl rfl) rfl ?_; clear H; intro a H; exact fin H (fun _ _ h => h) (rfl)
          · refine opI [(2, 40, _)] rfl ⟨fun _ _ h => h, trivial⟩ (by kernel_rfl) (fun _ _ _ _ _ h => h) rfl rfl ?_; intro Sd_ a w G1 hG HT H fin; refine s_move H (wg H rfl rfl (decide_eq_true c0)) rfl rfl ?_; clear H; intro a H; exact fin H (fun _ _ h => h) (rfl)
          · refine opI [(2, 40, _)] rfl ⟨fun _ _ h => h, trivial⟩ (by kernel_rfl) (fun _ _ _ _ _ h => h) rfl rfl ?_; intro Sd_ a w G1 hG HT H fin; refine s_move H (wg H rfl rfl (decide_eq_true c0)) rfl rfl ?_; clear H; intro a H; exact fin H (fun _ _ h => h) (rfl)
          · refine opI [(6, 44, _), (2, 40, _)] rfl ⟨fun _ _ h => h, fun _ _ h => h, trivial⟩ (by kernel_rfl) (fun _ _ _ _ _ h => h) rfl rfl ?_; intro Sd_ a w G1 hG HT H fin; refine s_sub _ H (wg H rfl rfl (decide_eq_true c0)) rfl rfl rfl (by omega) (by omega) rfl ?_; clear H; intro a H; exact fin H (fun _ _ h => h) (by first | rfl | exact congrArg vi (by omega))
          · refine opI [(5, 43, _), (7, 45, _), (2, 40, _)] rfl ⟨fun _ _ h => h, fun _ _ h => h, fun _ _ h => h, trivial⟩ (by kernel_rfl) (fun _ _ _ _ _ h => h) rfl rfl ?_; intro Sd_ a w G1 hG HT H fin; refine s_index un41sty ty100sty _ H (wg H rfl rfl (decide_eq_true c0)) rfl rfl rfl (by first | assumption | omega) rfl ?_; clear H; intro a H; exact fin H (fun _ _ h => h) (rfl)
          · refine opI [(8, 46, _), (2, 40, _)] rfl ⟨fun _ _ h => h, fun _ _ h => h, trivial⟩ (by kernel_rfl) (fun _ _ _ _ _ h => h) rfl rfl ?_; intro Sd_ a w G1 hG HT H fin; refine s_field fd100_0sty H (wg H rfl rfl (decide_eq_true c0)) rfl rfl ?_; clear H; intro a H; exact fin H (fun _ _ h => h) (rfl)
          · refine opI [(9, 47, _), (2, 40, _)] rfl ⟨fun _ _ h => h, fun _ _ h => h, trivial⟩ (by kernel_rfl) (fun _ _ _ _ _ h => h) rfl rfl ?_; intro Sd_ a w G1 hG HT H fin; refine s_load ty3run H (wg H rfl rfl (decide_eq_true c0)) rfl (H.hp.gcell (gcell_mono hG (gcell_mono hGm4 (hpk (by omega)).1))) rfl ?_; clear H; intro a H; exact fin H (fun _ _ h => h) (rfl)
          · refine opI [(4, 42, _), (10, 48, _), (2, 40, _)] rfl ⟨fun _ _ h => h, fun _ _ h => h, fun _ _ h => h, trivial⟩ (by kernel_rfl) (fun _ _ _ _ _ h => h) rfl rfl ?_; intro Sd_ a w G1 hG HT H fin; refine s_cmp H (wg H rfl rfl (decide_eq_true c0)) rfl rfl rfl rfl ?_; clear H; intro a H; exact fin H (fun _ _ h => h) (rfl)
          · refine opI [(2, 40, _), (11, 49, _)] rfl ⟨fun _ _ h => h, fun _ _ h => h, trivial⟩ (by kernel_rfl) (fun _ _ _ _ _ h => h) rfl rfl ?_; intro Sd_ a w G1 hG HT H fin; refine s_pick_t H wn rfl (decide_eq_true c0) rfl rfl ?_; clear H; intro a H; exact fin H (fun _ _ h => h) (rfl)
          intro _ _ _ _ hB; exact absurd hB (by decide)
        clear H; intro a w G hGm6 H hv; obtain ⟨u50, hu50, hp50⟩ := hv 12 50 (by decide) rfl; obtain rfl : u50 = .bool (decide (x.id < pk)) := hp50; have H := H.addS hu50; clear hv; refine s_assign H wn rfl rfl ?_; clear H; intro a H; refine wl_nil ⟨rfl, ?_⟩; refine hK8 _ _ ?_; clear hK8; refine c_cond_t H rfl (decide_eq_true c3) ?_; refine c_seq (fun _ hK9 => ?_)
        have e6 : ownS l k x = 6 := by rw [ownS, ownE, if_neg (by omega), if_neg q1', if_pos (by rw [(hpk (by omega)).2]; exact decide_eq_true c3)]
        refine c_region ?_; refine s_assign H wn rfl rfl ?_; clear H; intro a H; refine wl_nil ?_; refine hK9 _ _ ?_; clear hK9; refine c_ret ?_; refine (leave1 H Tryz.results103 (.cons (rv_tmp H rfl) .nil) ?_).1
        first
          | exact H.hp.ret (congrArg vi e0.symm)
          | exact H.hp.ret (congrArg vi e4.symm)
          | exact H.hp.ret (congrArg vi e7.symm)
          | exact H.hp.ret (congrArg vi e13.symm)
          | exact H.hp.ret (congrArg vi e3.symm)
          | exact H.hp.ret (congrArg vi e6.symm)
          | exact H.hp.ret (congrArg vi (by rw [ownS, ownE, if_pos (by omega)]))
      skip; refine c_drawI (hmx) [[], [0], [0, 1], [0, 1, 2], [0, 1, 2, 3], [0, 1, 2], [0, 1, 2], [0, 1, 2, 6], [0, 1, 2, 5, 6, 7], [0, 1, 2, 5, 6, 7, 8], [0, 1, 2, 5, 6, 7, 8, 9], [0, 1, 2, 3, 4, 5, 6, 7, 8, 9, 10], [0, 1, 2, 3, 4, 5, 6, 7, 8, 9, 10, 11], [0, 1, 2, 3, 4, 5, 6, 7, 8, 9, 10, 11, 12]] [13] (by kernel_rfl) (by kernel_rfl) (fun (ix_ : Nat) (v : Value) (G : GH) => match ix_ with | 0 => v = vi k | 1 => v = .bool (decide (0 < (k : Int))) | 2 => v = .bool (decide (0 < (k : Int))) | 3 => v = .pointer (some ⟨b5, 0, none⟩) | 4 => v = vi x.id | 5 => v = .slice (some ⟨b, o, none⟩) l.length c | 6 => v = vi k | 7 => v = vi ((k - 1 : Nat) : Int) | 8 => v = .pointer (some ⟨b, o + (k - 1) * 6, none⟩) | 9 => v = .pointer (some ⟨b, o + (k - 1) * 6 + 0, none⟩) | 10 => v = vi pk | 11 => v = .bool (decide (x.id < pk)) | 12 => v = .bool (decide (x.id < pk)) | _ => True) (fun _ _ _ _ _ h => h) H ?_ ?_
      · clear H; refine (allI_cons ?_ (allI_cons ?_ (allI_cons ?_ (allI_cons ?_ (allI_cons ?_ (allI_cons ?_ (allI_cons ?_ (allI_cons ?_ (allI_cons ?_ (allI_cons ?_ (allI_cons ?_ (allI_cons ?_ (allI_cons ?_ (allI_cons ?_ allI_nil))))))))))))))
        · refine opI [] rfl trivial (by kernel_rfl) (fun _ _ _ _ _ h => h) rfl rfl ?_; intro Sd_ a w G1 hG HT H fin; refine s_move H wn rfl rfl ?_; clear H; intro a H; exact fin H (fun _ _ h => h) (rfl)
        · refine opI [(0, 38, _)] rfl ⟨fun _ _ h => h, trivial⟩ (by kernel_rfl) (fun _ _ _ _ _ h => h) rfl rfl ?_; intro Sd_ a w G1 hG HT H fin; refine s_cmp H wn rfl rfl rfl rfl ?_; clear H; intro a H; exact fin H (fun _ _ h => h) (rfl)
        · refine opI [(1, 39, _)] rfl ⟨fun _ _ h => h, trivial⟩ (by kernel_rfl) (fun _ _ _ _ _ h => h) rfl rfl ?_; intro Sd_ a w G1 hG HT H fin; refine s_move H wn rfl rfl ?_; clear H; intro a H; exact fin H (fun _ _ h => h) (rfl)
        · refine opI [(2, 40, _)] rfl ⟨fun _ _ h => h, trivial⟩ (by kernel_rfl) (fun _ _ _ _ _ h => h) rfl rfl ?_; intro Sd_ a w G1 hG HT H fin; refine s_field fd100_0sty H (wg H rfl rfl (decide_eq_true c0)) rfl rfl ?_; clear H; intro a H; exact fin H (fun _ _ h => h) (rfl)
        · refine opI [(3, 41, _), (2, 40, _)] rfl ⟨fun _ _ h => h, fun _ _ h => h, trivial⟩ (by kernel_rfl) (fun _ _ _ _ _ h => h) rfl rfl ?_; intro Sd_ a w G1 hG HT H fin; refine s_load ty3run H (wg H rfl rfl (decide_eq_true c0)) rfl (H.hp.ocell 0 rfl rfl) rfl ?_; clear H; intro a H; exact fin H (fun _ _ h => h) (rfl)
        · refine opI [(2, 40, _)] rfl ⟨fun _ _ h => h, trivial⟩ (by kernel_rfl) (fun _ _ _ _ _ h => h) rfl rfl ?_; intro Sd_ a w G1 hG HT H fin; refine s_move H (wg H rfl rfl (decide_eq_true c0)) rfl rfl ?_; clear H; intro a H; exact fin H (fun _ _ h => h) (rfl)
        · refine opI [(2, 40, _)] rfl ⟨fun _ _ h => h, trivial⟩ (by kernel_rfl) (fun _ _ _ _ _ h => h) rfl rfl ?_; intro Sd_ a w G1 hG HT H fin; refine s_move H (wg H rfl rfl (decide_eq_true c0)) rfl rfl ?_; clear H; intro a H; exact fin H (fun _ _ h => h) (rfl)
        · refine opI [(6, 44, _), (2, 40, _)] rfl ⟨fun _ _ h => h, fun _ _ h => h, trivial⟩ (by kernel_rfl) (fun _ _ _ _ _ h => h) rfl rfl ?_; intro Sd_ a w G1 hG HT H fin; refine s_sub _ H (wg H rfl rfl (decide_eq_true c0)) rfl rfl rfl (by omega) (by omega) rfl ?_; clear H; intro a H; exact fin H (fun _ _ h => h) (by first | rfl | exact congrArg vi (by omega))
        · refine opI [(5, 43, _), (7, 45, _), (2, 40, _)] rfl ⟨fun _ _ h => h, fun _ _ h => h, fun _ _ h => h, trivial⟩ (by kernel_rfl) (fun _ _ _ _ _ h => h) rfl rfl ?_; intro Sd_ a w G1 hG HT H fin; refine s_index un41sty ty100sty _ H (wg H rfl rfl (decide_eq_true c0)) rfl rfl rfl (by first | assumption | omega) rfl ?_; clear H; intro a H; exact fin H (fun _ _ h => h) (rfl)
        · refine opI [(8, 46, _), (2, 40, _)] rfl ⟨fun _ _ h => h, fun _ _ h => h, trivial⟩ (by kernel_rfl) (fun _ _ _ _ _ h => h) rfl rfl ?_; intro Sd_ a w G1 hG HT H fin; refine s_field fd100_0sty H (wg H rfl rfl (decide_eq_true c0)) rfl rfl ?_; clear H; intro a H; exact fin H (fun _ _ h => h) (rfl)
        · refine opI [(9, 47, _), (2, 40, _)] rfl ⟨fun _ _ h => h, fun _ _ h => h, trivial⟩ (by kernel_rfl) (fun _ _ _ _ _ h => h) rfl rfl ?_; intro Sd_ a w G1 hG HT H fin; refine s_load ty3run H (wg H rfl rfl (decide_eq_true c0)) rfl (H.hp.gcell (gcell_mono hG (gcell_mono hGm4 (hpk (by omega)).1))) rfl ?_; clear H; intro a H; exact fin H (fun _ _ h => h) (rfl)
        · refine opI [(4, 42, _), (10, 48, _), (2, 40, _)] rfl ⟨fun _ _ h => h, fun _ _ h => h, fun _ _ h => h, trivial⟩ (by kernel_rfl) (fun _ _ _ _ _ h => h) rfl rfl ?_; intro Sd_ a w G1 hG HT H fin; refine s_cmp H (wg H rfl rfl (decide_eq_true c0)) rfl rfl rfl rfl ?_; clear H; intro a H; exact fin H (fun _ _ h => h) (rfl)
        · refine opI [(2, 40, _), (11, 49, _)] rfl ⟨fun _ _ h => h, fun _ _ h => h, trivial⟩ (by kernel_rfl) (fun _ _ _ _ _ h => h) rfl rfl ?_; intro Sd_ a w G1 hG HT H fin; refine s_pick_t H wn rfl (decide_eq_true c0) rfl rfl ?_; clear H; intro a H; exact fin H (fun _ _ h => h) (rfl)
        intro _ _ _ _ hB; exact absurd hB (by decide)
      clear H; intro a w G hGm6 H hv; obtain ⟨u50, hu50, hp50⟩ := hv 12 50 (by decide) rfl; obtain rfl : u50 = .bool (decide (x.id < pk)) := hp50; have H := H.addS hu50; clear hv; refine s_assign H wn rfl rfl ?_; clear H; intro a H; refine wl_nil ⟨rfl, ?_⟩; refine hK8 _ _ ?_; clear hK8; refine c_cond_f H rfl (decide_eq_false c3) ?_; refine c_seq (fun _ hK10 => ?_)
      have q2 : ¬ (0 < (k : Int) ∧ x.id < pk) := by first | exact fun h => c3 h.2 | exact fun h => c0 h.1
      have q2' : ¬ ltB (prevS l k) x.id = true := fun h => q2 (by
        by_cases h0 : 0 < k
        · rw [(hpk h0).2] at h; exact ⟨by omega, of_decide_eq_true h⟩
        rw [prevS_0 (by omega)] at h
        cases h)
      refine c_region ?_; refine s_field fd100_1sty H wn rfl rfl ?_; clear H; intro a H; refine s_load ty3run H wn rfl (H.hp.ocell 0 rfl rfl) rfl ?_; clear H; intro a H; refine s_cmp H wn rfl rfl rfl rfl ?_; clear H; intro a H; refine s_move H wn rfl rfl ?_; clear H; intro a H; refine s_split H 55 rfl ?_ ?_
      · intro h55
        try have p55 := of_decide_eq_true h55
        refine s_field fd100_1sty H (wg H rfl rfl h55) rfl rfl ?_; clear H; intro a H; refine s_load ty3run H (wg H rfl rfl h55) rfl (H.hp.ocell 0 rfl rfl) rfl ?_; clear H; intro a H; refine s_cmp H (wg H rfl rfl h55) rfl rfl rfl rfl ?_; clear H; intro a H; refine s_pick_t H wn rfl h55 rfl rfl ?_; clear H; intro a H; refine s_assign H wn rfl rfl ?_; clear H; intro a H; refine wl_nil ?_; refine hK10 _ _ ?_; clear hK10; refine c_cond H rfl ?_ ?_
        · intro h51
          try have p51 := of_decide_eq_true h51
          refine c_seq (fun _ hK11 => ?_)
          have e3 : ownS l k x = 3 := by rw [ownS, ownE, if_neg (by omega), if_neg q1', if_neg q2', if_pos (by omega)]
          refine c_region ?_; refine s_assign H wn rfl rfl ?_; clear H; intro a H; refine wl_nil ?_; refine hK11 _ _ ?_; clear hK11; refine c_ret ?_; refine (leave1 H Tryz.results103 (.cons (rv_tmp H rfl) .nil) ?_).1
          first
            | exact H.hp.ret (congrArg vi e0.symm)
            | exact H.hp.ret (congrArg vi e4.symm)
            | exact H.hp.ret (congrArg vi e7.symm)
            | exact H.hp.ret (congrArg vi e13.symm)
            | exact H.hp.ret (congrArg vi e3.symm)
            | exact H.hp.ret (congrArg vi e6.symm)
            | exact H.hp.ret (congrArg vi (by rw [ownS, ownE, if_pos (by omega)]))
        intro h51
        try have p51 := of_decide_eq_false h51
        refine c_seqR (fun _ hK12 => ?_); refine s_field fd100_2sty H wn rfl rfl ?_; clear H; intro a H; refine s_load ty9run H wn rfl (H.hp.ocell 0 rfl rfl) rfl ?_; clear H; intro a H; refine s_call en177stz H wn rfl (isName_spec _ _ H.hp.ro x.name hs) rfl ?_; clear H; rintro v63 G63 a w rfl hm63 H; refine s_not H wn rfl rfl ?_; clear H; intro a H; refine s_assign H wn rfl rfl ?_; clear H; intro a H; refine hK12 _ _ ?_; clear hK12; refine c_cond H rfl ?_ ?_
        · intro h60
          try have p60 := of_decide_eq_true h60
          refine c_seq (fun _ hK13 => ?_)
          have e13 : ownS l k x = 13 := by rw [ownS, ownE, if_neg (by omega), if_neg q1', if_neg q2', if_neg (by omega), if_pos (by simpa using h60)]
          refine c_region ?_; refine s_assign H wn rfl rfl ?_; clear H; intro a H; refine wl_nil ?_; refine hK13 _ _ ?_; clear hK13; refine c_ret ?_; refine (leave1 H Tryz.results103 (.cons (rv_tmp H rfl) .nil) ?_).1
          first
            | exact H.hp.ret (congrArg vi e0.symm)
            | exact H.hp.ret (congrArg vi e4.symm)
            | exact H.hp.ret (congrArg vi e7.symm)
            | exact H.hp.ret (congrArg vi e13.symm)
            | exact H.hp.ret (congrArg vi e3.symm)
            | exact H.hp.ret (congrArg vi e6.symm)
            | exact H.hp.ret (congrArg vi (by rw [ownS, ownE, if_pos (by omega)]))
        intro h60
        try have p60 := of_decide_eq_false h60
        refine c_skip ?_; refine ⟨G63, by exact (H).sub ⟨rfl, rfl, rfl, trivial⟩, ?_⟩; exact ⟨by omega, q1', q2', by omega, by simpa using h60, fun b o h => hm63 b o (hGm6 b o (hGm4 b o h))⟩
      intro h55
      try have p55 := of_decide_eq_false h55
      (iterate 3 refine s_skip H rfl rfl h55 rfl ?_; clear H; intro a H); refine s_pick_f H wn rfl h55 rfl rfl ?_; clear H; intro a H; refine s_assign H wn rfl rfl ?_; clear H; intro a H; refine wl_nil ?_; refine hK10 _ _ ?_; clear hK10; refine c_cond_f H rfl rfl ?_; refine c_seqR (fun _ hK14 => ?_); refine s_field fd100_2sty H wn rfl rfl ?_; clear H; intro a H; refine s_load ty9run H wn rfl (H.hp.ocell 0 rfl rfl) rfl ?_; clear H; intro a H; refine s_call en177stz H wn rfl (isName_spec _ _ H.hp.ro x.name hs) rfl ?_; clear H; rintro v63 G63 a w rfl hm63 H; refine s_not H wn rfl rfl ?_; clear H; intro a H; refine s_assign H wn rfl rfl ?_; clear H; intro a H; refine hK14 _ _ ?_; clear hK14; refine c_cond H rfl ?_ ?_
      · intro h60
        try have p60 := of_decide_eq_true h60
        refine c_seq (fun _ hK15 => ?_)
        have e13 : ownS l k x = 13 := by rw [ownS, ownE, if_neg (by omega), if_neg q1', if_neg q2', if_neg (by omega), if_pos (by simpa using h60)]
        refine c_region ?_; refine s_assign H wn rfl rfl ?_; clear H; intro a H; refine wl_nil ?_; refine hK15 _ _ ?_; clear hK15; refine c_ret ?_; refine (leave1 H Tryz.results103 (.cons (rv_tmp H rfl) .nil) ?_).1
        first
          | exact H.hp.ret (congrArg vi e0.symm)
          | exact H.hp.ret (congrArg vi e4.symm)
          | exact H.hp.ret (congrArg vi e7.symm)
          | exact H.hp.ret (congrArg vi e13.symm)
          | exact H.hp.ret (congrArg vi e3.symm)
          | exact H.hp.ret (congrArg vi e6.symm)
          | exact H.hp.ret (congrArg vi (by rw [ownS, ownE, if_pos (by omega)]))
      intro h60
      try have p60 := of_decide_eq_false h60
      refine c_skip ?_; refine ⟨G63, by exact (H).sub ⟨rfl, rfl, rfl, trivial⟩, ?_⟩; exact ⟨by omega, q1', q2', by omega, by simpa using h60, fun b o h => hm63 b o (hGm6 b o (hGm4 b o h))⟩
    skip; refine c_drawI (hmx) [[], [0], [0, 1], [0, 1, 2], [0, 1, 2, 3], [0, 1, 2], [0, 1, 2], [0, 1, 2, 6], [0, 1, 2, 5, 6, 7], [0, 1, 2, 5, 6, 7, 8], [0, 1, 2, 5, 6, 7, 8, 9], [0, 1, 2, 3, 4, 5, 6, 7, 8, 9, 10], [0, 1, 2, 3, 4, 5, 6, 7, 8, 9, 10, 11], [0, 1, 2, 3, 4, 5, 6, 7, 8, 9, 10, 11, 12]] [13] (by kernel_rfl) (by kernel_rfl) (fun (ix_ : Nat) (v : Value) (G : GH) => match ix_ with | 0 => v = vi k | 1 => v = .bool (decide (0 < (k : Int))) | 2 => v = .bool (decide (0 < (k : Int))) | 3 => v = undef | 4 => v = undef | 5 => v = undef | 6 => v = undef | 7 => v = undef | 8 => v = undef | 9 => v = undef | 10 => v = undef | 11 => v = undef | 12 => v = .bool false | _ => True) (fun _ _ _ _ _ h => h) H ?_ ?_
    · clear H; refine (allI_cons ?_ (allI_cons ?_ (allI_cons ?_ (allI_cons ?_ (allI_cons ?_ (allI_cons ?_ (allI_cons ?_ (allI_cons ?_ (allI_cons ?_ (allI_cons ?_ (allI_cons ?_ (allI_cons ?_ (allI_cons ?_ (allI_cons ?_ allI_nil))))))))))))))
      · refine opI [] rfl trivial (by kernel_rfl) (fun _ _ _ _ _ h => h) rfl rfl ?_; intro Sd_ a w G1 hG HT H fin; refine s_move H wn rfl rfl ?_; clear H; intro a H; exact fin H (fun _ _ h => h) (rfl)
      · refine opI [(0, 24, _)] rfl ⟨fun _ _ h => h, trivial⟩ (by kernel_rfl) (fun _ _ _ _ _ h => h) rfl rfl ?_; intro Sd_ a w G1 hG HT H fin; refine s_cmp H wn rfl rfl rfl rfl ?_; clear H; intro a H; exact fin H (fun _ _ h => h) (rfl)
      · refine opI [(1, 25, _)] rfl ⟨fun _ _ h => h, trivial⟩ (by kernel_rfl) (fun _ _ _ _ _ h => h) rfl rfl ?_; intro Sd_ a w G1 hG HT H fin; refine s_move H wn rfl rfl ?_; clear H; intro a H; exact fin H (fun _ _ h => h) (rfl)
      · exact skipI (j := 2) (by kernel_rfl) (fun _ _ _ _ _ h => h) rfl rfl rfl rfl rfl (fun _ _ h => Eq.trans h (congrArg Value.bool (decide_eq_false c0))) rfl (fun _ => rfl)
      · exact skipI (j := 2) (by kernel_rfl) (fun _ _ _ _ _ h => h) rfl rfl rfl rfl rfl (fun _ _ h => Eq.trans h (congrArg Value.bool (decide_eq_false c0))) rfl (fun _ => rfl)
      · exact skipI (j := 2) (by kernel_rfl) (fun _ _ _ _ _ h => h) rfl rfl rfl rfl rfl (fun _ _ h => Eq.trans h (congrArg Value.bool (decide_eq_false c0))) rfl (fun _ => rfl)
      · exact skipI (j := 2) (by kernel_rfl) (fun _ _ _ _ _ h => h) rfl rfl rfl rfl rfl (fun _ _ h => Eq.trans h (congrArg Value.bool (decide_eq_false c0))) rfl (fun _ => rfl)
      · exact skipI (j := 2) (by kernel_rfl) (fun _ _ _ _ _ h => h) rfl rfl rfl rfl rfl (fun _ _ h => Eq.trans h (congrArg Value.bool (decide_eq_false c0))) rfl (fun _ => rfl)
      · exact skipI (j := 2) (by kernel_rfl) (fun _ _ _ _ _ h => h) rfl rfl rfl rfl rfl (fun _ _ h => Eq.trans h (congrArg Value.bool (decide_eq_false c0))) rfl (fun _ => rfl)
      · exact skipI (j := 2) (by kernel_rfl) (fun _ _ _ _ _ h => h) rfl rfl rfl rfl rfl (fun _ _ h => Eq.trans h (congrArg Value.bool (decide_eq_false c0))) rfl (fun _ => rfl)
      · exact skipI (j := 2) (by kernel_rfl) (fun _ _ _ _ _ h => h) rfl rfl rfl rfl rfl (fun _ _ h => Eq.trans h (congrArg Value.bool (decide_eq_false c0))) rfl (fun _ => rfl)
      · exact skipI (j := 2) (by kernel_rfl) (fun _ _ _ _ _ h => h) rfl rfl rfl rfl rfl (fun _ _ h => Eq.trans h (congrArg Value.bool (decide_eq_false c0))) rfl (fun _ => rfl)
      · refine opI [(2, 26, _), (11, 35, _)] rfl ⟨fun _ _ h => h, fun _ _ h => h, trivial⟩ (by kernel_rfl) (fun _ _ _ _ _ h => h) rfl rfl ?_; intro Sd_ a w G1 hG HT H fin; refine s_pick_f H wn rfl (decide_eq_false c0) rfl rfl ?_; clear H; intro a H; exact fin H (fun _ _ h => h) (rfl)
      intro _ _ _ _ hB; exact absurd hB (by decide)
    clear H; intro a w G hGm4 H hv; obtain ⟨u36, hu36, hp36⟩ := hv 12 36 (by decide) rfl; obtain rfl : u36 = .bool false := hp36; have H := H.addS hu36; clear hv; refine s_assign H wn rfl rfl ?_; clear H; intro a H; refine wl_nil ⟨rfl, ?_⟩; refine hK6 _ _ ?_; clear hK6; refine c_cond_f H rfl rfl ?_; refine c_seq (fun _ hK16 => ?_)
    have q1 : ¬ (0 < (k : Int) ∧ x.id = pk) := by first | exact fun h => c1 h.2 | exact fun h => c0 h.1
    have q1' : ¬ prevS l k = some x.id := fun h => q1 (by
      by_cases h0 : 0 < k
      · rw [(hpk h0).2] at h
        injection h with h
        exact ⟨by omega, h.symm⟩
      rw [prevS_0 (by omega)] at h
      cases h)
    refine c_drawI (hmx) [[], [0], [0, 1], [0, 1, 2], [0, 1, 2, 3], [0, 1, 2], [0, 1, 2], [0, 1, 2, 6], [0, 1, 2, 5, 6, 7], [0, 1, 2, 5, 6, 7, 8], [0, 1, 2, 5, 6, 7, 8, 9], [0, 1, 2, 3, 4, 5, 6, 7, 8, 9, 10], [0, 1, 2, 3, 4, 5, 6, 7, 8, 9, 10, 11], [0, 1, 2, 3, 4, 5, 6, 7, 8, 9, 10, 11, 12]] [13] (by kernel_rfl) (by kernel_rfl) (fun (ix_ : Nat) (v : Value) (G : GH) => match ix_ with | 0 => v = vi k | 1 => v = .bool (decide (0 < (k : Int))) | 2 => v = .bool (decide (0 < (k : Int))) | 3 => v = undef | 4 => v = undef | 5 => v = undef | 6 => v = undef | 7 => v = undef | 8 => v = undef | 9 => v = undef | 10 => v = undef | 11 => v = undef | 12 => v = .bool false | _ => True) (fun _ _ _ _ _ h => h) H ?_ ?_
    · clear H; refine (allI_cons ?_ (allI_cons ?_ (allI_cons ?_ (allI_cons ?_ (allI_cons ?_ (allI_cons ?_ (allI_cons ?_ (allI_cons ?_ (allI_cons ?_ (allI_cons ?_ (allI_cons ?_ (allI_cons ?_ (allI_cons ?_ (allI_cons ?_ allI_nil))))))))))))))
      · refine opI [] rfl trivial (by kernel_rfl) (fun _ _ _ _ _ h => h) rfl rfl ?_; intro Sd_ a w G1 hG HT H fin; refine s_move H wn rfl rfl ?_; clear H; intro a H; exact fin H (fun _ _ h => h) (rfl)
      · refine opI [(0, 38, _)] rfl ⟨fun _ _ h => h, trivial⟩ (by kernel_rfl) (fun _ _ _ _ _ h => h) rfl rfl ?_; intro Sd_ a w G1 hG HT H fin; refine s_cmp H wn rfl rfl rfl rfl ?_; clear H; intro a H; exact fin H (fun _ _ h => h) (rfl)
      · refine opI [(1, 39, _)] rfl ⟨fun _ _ h => h, trivial⟩ (by kernel_rfl) (fun _ _ _ _ _ h => h) rfl rfl ?_; intro Sd_ a w G1 hG HT H fin; refine s_move H wn rfl rfl ?_; clear H; intro a H; exact fin H (fun _ _ h => h) (rfl)
      · exact skipI (j := 2) (by kernel_rfl) (fun _ _ _ _ _ h => h) rfl rfl rfl rfl rfl (fun _ _ h => Eq.trans h (congrArg Value.bool (decide_eq_false c0))) rfl (fun _ => rfl)
      · exact skipI (j := 2) (by kernel_rfl) (fun _ _ _ _ _ h => h) rfl rfl rfl rfl rfl (fun _ _ h => Eq.trans h (congrArg Value.bool (decide_eq_false c0))) rfl (fun _ => rfl)
      · exact skipI (j := 2) (by kernel_rfl) (fun _ _ _ _ _ h => h) rfl rfl rfl rfl rfl (fun _ _ h => Eq.trans h (congrArg Value.bool (decide_eq_false c0))) rfl (fun _ => rfl)
      · exact skipI (j := 2) (by kernel_rfl) (fun _ _ _ _ _ h => h) rfl rfl rfl rfl rfl (fun _ _ h => Eq.trans h (congrArg Value.bool (decide_eq_false c0))) rfl (fun _ => rfl)
      · exact skipI (j := 2) (by kernel_rfl) (fun _ _ _ _ _ h => h) rfl rfl rfl rfl rfl (fun _ _ h => Eq.trans h (congrArg Value.bool (decide_eq_false c0))) rfl (fun _ => rfl)
      · exact skipI (j := 2) (by kernel_rfl) (fun _ _ _ _ _ h => h) rfl rfl rfl rfl rfl (fun _ _ h => Eq.trans h (congrArg Value.bool (decide_eq_false c0))) rfl (fun _ => rfl)
      · exact skipI (j := 2) (by kernel_rfl) (fun _ _ _ _ _ h => h) rfl rfl rfl rfl rfl (fun _ _ h => Eq.trans h (congrArg Value.bool (decide_eq_false c0))) rfl (fun _ => rfl)
      · exact skipI (j := 2) (by kernel_rfl) (fun _ _ _ _ _ h => h) rfl rfl rfl rfl rfl (fun _ _ h => Eq.trans h (congrArg Value.bool (decide_eq_false c0))) rfl (fun _ => rfl)
      · exact skipI (j := 2) (by kernel_rfl) (fun _ _ _ _ _ h => h) rfl rfl rfl rfl rfl (fun _ _ h => Eq.trans h (congrArg Value.bool (decide_eq_false c0))) rfl (fun _ => rfl)
      · refine opI [(2, 40, _), (11, 49, _)] rfl ⟨fun _ _ h => h, fun _ _ h => h, trivial⟩ (by kernel_rfl) (fun _ _ _ _ _ h => h) rfl rfl ?_; intro Sd_ a w G1 hG HT H fin; refine s_pick_f H wn rfl (decide_eq_false c0) rfl rfl ?_; clear H; intro a H; exact fin H (fun _ _ h => h) (rfl)
      intro _ _ _ _ hB; exact absurd hB (by decide)
    clear H; intro a w G hGm6 H hv; obtain ⟨u50, hu50, hp50⟩ := hv 12 50 (by decide) rfl; obtain rfl : u50 = .bool false := hp50; have H := H.addS hu50; clear hv; refine s_assign H wn rfl rfl ?_; clear H; intro a H; refine wl_nil ⟨rfl, ?_⟩; refine hK16 _ _ ?_; clear hK16; refine c_cond_f H rfl rfl ?_; refine c_seq (fun _ hK17 => ?_)
    have q2 : ¬ (0 < (k : Int) ∧ x.id < pk) := by first | exact fun h => c3 h.2 | exact fun h => c0 h.1
    have q2' : ¬ ltB (prevS l k) x.id = true := fun h => q2 (by
      by_cases h0 : 0 < k
      · rw [(hpk h0).2] at h; exact ⟨by omega, of_decide_eq_true h⟩
      rw [prevS_0 (by omega)] at h
      cases h)
    refine c_region ?_; refine s_field fd100_1sty H wn rfl rfl ?_; clear H; intro a H; refine s_load ty3run H wn rfl (H.hp.ocell 0 rfl rfl) rfl ?_; clear H; intro a H; refine s_cmp H wn rfl rfl rfl rfl ?_; clear H; intro a H; refine s_move H wn rfl rfl ?_; clear H; intro a H; refine s_split H 55 rfl ?_ ?_
    · intro h55
      try have p55 := of_decide_eq_true h55
      refine s_field fd100_1sty H (wg H rfl rfl h55) rfl rfl ?_; clear H; intro a H; refine s_load ty3run H (wg H rfl rfl h55) rfl (H.hp.ocell 0 rfl rfl) rfl ?_; clear H; intro a H; refine s_cmp H (wg H rfl rfl h55) rfl rfl rfl rfl ?_; clear H; intro a H; refine s_pick_t H wn rfl h55 rfl rfl ?_; clear H; intro a H; refine s_assign H wn rfl rfl ?_; clear H; intro a H; refine wl_nil ?_; refine hK17 _ _ ?_; clear hK17; refine c_cond H rfl ?_ ?_
      · intro h51
        try have p51 := of_decide_eq_true h51
        refine c_seq (fun _ hK18 => ?_)
        have e3 : ownS l k x = 3 := by rw [ownS, ownE, if_neg (by omega), if_neg q1', if_neg q2', if_pos (by omega)]
        refine c_region ?_; refine s_assign H wn rfl rfl ?_; clear H; intro a H; refine wl_nil ?_; refine hK18 _ _ ?_; clear hK18; refine c_ret ?_; refine (leave1 H Tryz.results103 (.cons (rv_tmp H rfl) .nil) ?_).1
        first
          | exact H.hp.ret (congrArg vi e0.symm)
          | exact H.hp.ret (congrArg vi e4.symm)
          | exact H.hp.ret (congrArg vi e7.symm)
          | exact H.hp.ret (congrArg vi e13.symm)
          | exact H.hp.ret (congrArg vi e3.symm)
          | exact H.hp.ret (congrArg vi e6.symm)
          | exact H.hp.ret (congrArg vi (by rw [ownS, ownE, if_pos (by omega)]))
      intro h51
      try have p51 := of_decide_eq_false h51
      refine c_seqR (fun _ hK19 => ?_); refine s_field fd100_2sty H wn rfl rfl ?_; clear H; intro a H; refine s_load ty9run H wn rfl (H.hp.ocell 0 rfl rfl) rfl ?_; clear H; intro a H; refine s_call en177stz H wn rfl (isName_spec _ _ H.hp.ro x.name hs) rfl ?_; clear H; rintro v63 G63 a w rfl hm63 H; refine s_not H wn rfl rfl ?_; clear H; intro a H; refine s_assign H wn rfl rfl ?_; clear H; intro a H; refine hK19 _ _ ?_; clear hK19; refine c_cond H rfl ?_ ?_
      · intro h60
        try have p60 := of_decide_eq_true h60
        refine c_seq (fun _ hK20 => ?_)
        have e13 : ownS l k x = 13 := by rw [ownS, ownE, if_neg (by omega), if_neg q1', if_neg q2', if_neg (by omega), if_pos (by simpa using h60)]
        refine c_region ?_; refine s_assign H wn rfl rfl ?_; clear H; intro a H; refine wl_nil ?_; refine hK20 _ _ ?_; clear hK20; refine c_ret ?_; refine (leave1 H Tryz.results103 (.cons (rv_tmp H rfl) .nil) ?_).1
        first
          | exact H.hp.ret (congrArg vi e0.symm)
          | exact H.hp.ret (congrArg vi e4.symm)
          | exact H.hp.ret (congrArg vi e7.symm)
          | exact H.hp.ret (congrArg vi e13.symm)
          | exact H.hp.ret (congrArg vi e3.symm)
          | exact H.hp.ret (congrArg vi e6.symm)
          | exact H.hp.ret (congrArg vi (by rw [ownS, ownE, if_pos (by omega)]))
      intro h60
      try have p60 := of_decide_eq_false h60
      refine c_skip ?_; refine ⟨G63, by exact (H).sub ⟨rfl, rfl, rfl, trivial⟩, ?_⟩; exact ⟨by omega, q1', q2', by omega, by simpa using h60, fun b o h => hm63 b o (hGm6 b o (hGm4 b o h))⟩
    intro h55
    try have p55 := of_decide_eq_false h55
    (iterate 3 refine s_skip H rfl rfl h55 rfl ?_; clear H; intro a H); refine s_pick_f H wn rfl h55 rfl rfl ?_; clear H; intro a H; refine s_assign H wn rfl rfl ?_; clear H; intro a H; refine wl_nil ?_; refine hK17 _ _ ?_; clear hK17; refine c_cond_f H rfl rfl ?_; refine c_seqR (fun _ hK21 => ?_); refine s_field fd100_2sty H wn rfl rfl ?_; clear H; intro a H; refine s_load ty9run H wn rfl (H.hp.ocell 0 rfl rfl) rfl ?_; clear H; intro a H; refine s_call en177stz H wn rfl (isName_spec _ _ H.hp.ro x.name hs) rfl ?_; clear H; rintro v63 G63 a w rfl hm63 H; refine s_not H wn rfl rfl ?_; clear H; intro a H; refine s_assign H wn rfl rfl ?_; clear H; intro a H; refine hK21 _ _ ?_; clear hK21; refine c_cond H rfl ?_ ?_
    · intro h60
      try have p60 := of_decide_eq_true h60
      refine c_seq (fun _ hK22 => ?_)
      have e13 : ownS l k x = 13 := by rw [ownS, ownE, if_neg (by omega), if_neg q1', if_neg q2', if_neg (by omega), if_pos (by simpa using h60)]
      refine c_region ?_; refine s_assign H wn rfl rfl ?_; clear H; intro a H; refine wl_nil ?_; refine hK22 _ _ ?_; clear hK22; refine c_ret ?_; refine (leave1 H Tryz.results103 (.cons (rv_tmp H rfl) .nil) ?_).1
      first
        | exact H.hp.ret (congrArg vi e0.symm)
        | exact H.hp.ret (congrArg vi e4.symm)
        | exact H.hp.ret (congrArg vi e7.symm)
        | exact H.hp.ret (congrArg vi e13.symm)
        | exact H.hp.ret (congrArg vi e3.symm)
        | exact H.hp.ret (congrArg vi e6.symm)
        | exact H.hp.ret (congrArg vi (by rw [ownS, ownE, if_pos (by omega)]))
    intro h60
    try have p60 := of_decide_eq_false h60
    refine c_skip ?_; refine ⟨G63, by exact (H).sub ⟨rfl, rfl, rfl, trivial⟩, ?_⟩; exact ⟨by omega, q1', q2', by omega, by simpa using h60, fun b o h => hm63 b o (hGm6 b o (hGm4 b o h))⟩
  clear H; intro gh a w hI H; obtain ⟨g, hgh⟩ : ∃ x, x = gh := ⟨_, rfl⟩; subst hgh; obtain ⟨q0, q1', q2', q3, q4, hgm⟩ := hI; dsimp only [List.cons_append, List.nil_append, List.append_nil] at H; refine c_seq (fun _ hK23 => ?_); refine c_seq (fun _ hK24 => ?_); have hv12 := (hv.mono hgm).pre k (by rw [List.length_map]; omega); rw [← List.map_take] at hv12; have hp12 := hp.mono hgm; refine c_drawI (hmx) [[], [], [0, 1], [], [3], [], [5], [0, 1, 2, 3, 4, 5, 6], [0, 1, 2, 3, 4, 5, 6, 7], [0, 1, 2, 3, 4, 5, 6, 7, 8], [0, 1, 2, 3, 4, 5, 6, 7, 8], [0, 1, 2, 3, 4, 5, 6, 7, 8, 9], [0, 1, 2, 3, 4, 5, 6, 7, 8, 9, 10, 11]] [12] (by kernel_rfl) (by kernel_rfl) (fun (ix_ : Nat) (v : Value) (G : GH) => match ix_ with | 0 => v = .slice (some ⟨b, o, none⟩) l.length c | 1 => v = vi k | 2 => v = .slice (some ⟨b, o, none⟩) k c | 3 => v = .pointer (some ⟨b5, 1, none⟩) | 4 => v = vi x.kind | 5 => v = .pointer (some ⟨b5, 2, none⟩) | 6 => v = .string x.name | 7 => v = .tuple #[vi (max (ixI (findName (l.take k) x.kind x.name)) 0), .bool (findName (l.take k) x.kind x.name).isSome] | 8 => v = .tuple #[vi (max (ixI (findName (l.take k) x.kind x.name)) 0), .bool (findName (l.take k) x.kind x.name).isSome] | 9 => v = vi (max (ixI (findName (l.take k) x.kind x.name)) 0) | 10 => v = .bool (findName (l.take k) x.kind x.name).isSome | 11 => v = vi (max (ixI (findName (l.take k) x.kind x.name)) 0) | _ => True) (fun _ _ _ _ _ h => h) H ?_ ?_
  · clear H; refine (allI_cons ?_ (allI_cons ?_ (allI_cons ?_ (allI_cons ?_ (allI_cons ?_ (allI_cons ?_ (allI_cons ?_ (allI_cons ?_ (allI_cons ?_ (allI_cons ?_ (allI_cons ?_ (allI_cons ?_ (allI_cons ?_ allI_nil)))))))))))))
    · refine opI [] rfl trivial (by kernel_rfl) (fun _ _ _ _ _ h => h) rfl rfl ?_; intro Sd_ a w G1 hG HT H fin; refine s_move H wn rfl rfl ?_; clear H; intro a H; exact fin H (fun _ _ h => h) (rfl)
    · refine opI [] rfl trivial (by kernel_rfl) (fun _ _ _ _ _ h => h) rfl rfl ?_; intro Sd_ a w G1 hG HT H fin; refine s_move H wn rfl rfl ?_; clear H; intro a H; exact fin H (fun _ _ h => h) (rfl)
    · refine opI [(0, 66, _), (1, 67, _)] rfl ⟨fun _ _ h => h, fun _ _ h => h, trivial⟩ (by kernel_rfl) (fun _ _ _ _ _ h => h) rfl rfl ?_; intro Sd_ a w G1 hG HT H fin; refine s_sliceTo un41sty ty100sty k H wn rfl rfl rfl (by omega) rfl ?_; clear H; intro a H; exact fin H (fun _ _ h => h) (rfl)
    · refine opI [] rfl trivial (by kernel_rfl) (fun _ _ _ _ _ h => h) rfl rfl ?_; intro Sd_ a w G1 hG HT H fin; refine s_field fd100_1sty H wn rfl rfl ?_; clear H; intro a H; exact fin H (fun _ _ h => h) (rfl)
    · refine opI [(3, 69, _)] rfl ⟨fun _ _ h => h, trivial⟩ (by kernel_rfl) (fun _ _ _ _ _ h => h) rfl rfl ?_; intro Sd_ a w G1 hG HT H fin; refine s_load ty3run H wn rfl (H.hp.ocell 0 rfl rfl) rfl ?_; clear H; intro a H; exact fin H (fun _ _ h => h) (rfl)
    · refine opI [] rfl trivial (by kernel_rfl) (fun _ _ _ _ _ h => h) rfl rfl ?_; intro Sd_ a w G1 hG HT H fin; refine s_field fd100_2sty H wn rfl rfl ?_; clear H; intro a H; exact fin H (fun _ _ h => h) (rfl)
    · refine opI [(5, 71, _)] rfl ⟨fun _ _ h => h, trivial⟩ (by kernel_rfl) (fun _ _ _ _ _ h => h) rfl rfl ?_; intro Sd_ a w G1 hG HT H fin; refine s_load ty9run H wn rfl (H.hp.ocell 0 rfl rfl) rfl ?_; clear H; intro a H; exact fin H (fun _ _ h => h) (rfl)
    · refine opI [(2, 68, _), (4, 70, _), (6, 72, _)] rfl ⟨fun _ _ h => h, fun _ _ h => h, fun _ _ h => h, trivial⟩ (by kernel_rfl) (fun _ _ _ _ _ h => h) rfl rfl ?_; intro Sd_ a w G1 hG HT H fin; refine s_call en178stz H wn rfl (findName_spec _ _ H.hp.ro (l.take k) x.kind x.name _ (hv12.mono hG)) rfl ?_; clear H; rintro v73 G73 a w rfl hGm73 H; exact fin H hGm73 (rfl)
    · refine opI [(7, 73, _)] rfl ⟨fun _ _ h => h, trivial⟩ (by kernel_rfl) (fun _ _ _ _ _ h => h) rfl rfl ?_; intro Sd_ a w G1 hG HT H fin; refine s_move H wn rfl rfl ?_; clear H; intro a H; exact fin H (fun _ _ h => h) (rfl)
    · refine opI [(8, 65, _)] rfl ⟨fun _ _ h => h, trivial⟩ (by kernel_rfl) (fun _ _ _ _ _ h => h) rfl rfl ?_; intro Sd_ a w G1 hG HT H fin; refine s_extract H wn rfl rfl rfl ?_; clear H; intro a H; exact fin H (fun _ _ h => h) (rfl)
    · refine opI [(8, 65, _)] rfl ⟨fun _ _ h => h, trivial⟩ (by kernel_rfl) (fun _ _ _ _ _ h => h) rfl rfl ?_; intro Sd_ a w G1 hG HT H fin; refine s_extract H wn rfl rfl rfl ?_; clear H; intro a H; exact fin H (fun _ _ h => h) (rfl)
    · refine opI [(9, 74, _)] rfl ⟨fun _ _ h => h, trivial⟩ (by kernel_rfl) (fun _ _ _ _ _ h => h) rfl rfl ?_; intro Sd_ a w G1 hG HT H fin; refine s_assign H wn rfl rfl ?_; clear H; intro a H; exact fin H (fun _ _ h => h) (rfl)
    intro _ _ _ _ hB; exact absurd hB (by decide)
  clear H; intro a w G hGm12 H hv; obtain ⟨u75, hu75, hp75⟩ := hv 10 75 (by decide) rfl; obtain rfl : u75 = .bool (findName (l.take k) x.kind x.name).isSome := hp75; have H := H.addS hu75; clear hv; refine s_assign H wn rfl rfl ?_; clear H; intro a H; refine wl_nil ⟨rfl, ?_⟩; refine hK24 _ _ ?_; clear hK24; refine c_seqR (fun _ hK25 => ?_); refine s_move H wn rfl rfl ?_; clear H; intro a H; refine hK25 _ _ ?_; clear hK25; refine c_cond H rfl ?_ ?_
  · intro h76
    try have p76 := of_decide_eq_true h76
    refine c_seq (fun _ hK26 => ?_)
    have e7 : ownS l k x = 7 := by rw [ownS, ownE, if_neg (by omega), if_neg q1', if_neg q2', if_neg q3, if_neg q4, if_pos h76]
    refine c_region ?_; refine s_assign H wn rfl rfl ?_; clear H; intro a H; refine wl_nil ?_; refine hK26 _ _ ?_; clear hK26; refine c_ret ?_; refine (leave1 H Tryz.results103 (.cons (rv_tmp H rfl) .nil) ?_).1
    first
      | exact H.hp.ret (congrArg vi e0.symm)
      | exact H.hp.ret (congrArg vi e4.symm)
      | exact H.hp.ret (congrArg vi e7.symm)
      | exact H.hp.ret (congrArg vi e13.symm)
      | exact H.hp.ret (congrArg vi e3.symm)
      | exact H.hp.ret (congrArg vi e6.symm)
      | exact H.hp.ret (congrArg vi (by rw [ownS, ownE, if_pos (by omega)]))
  intro h76
  try have p76 := of_decide_eq_false h76
  refine c_skip ?_; refine hK23 _ _ ?_; clear hK23; refine c_seq (fun _ hK27 => ?_); refine c_seq (fun _ hK28 => ?_)
  have q5 : ¬ (findName (l.take k) x.kind x.name).isSome = true := by simpa using h76
  have hp15 := hp12.mono hGm12; refine c_region ?_; refine s_field fd100_5stz H wn rfl rfl ?_; clear H; intro a H; refine s_load ty25run H wn rfl (H.hp.ocell 0 rfl rfl) rfl ?_; clear H; intro a H; refine s_len un25run H wn rfl rfl ?_; clear H; intro a H; refine s_move H wn rfl rfl ?_; clear H; intro a H; refine wl_nil ?_; refine hK28 _ _ ?_; clear hK28; refine c_block ?_; skip; refine c_loopS (ι := Nat) (Tc := [(5, _), (78, _), (79, _)]) (Lc := [(_, _)]) (fun (gh : Nat) => [(80, vi gh)]) (fun (gh : Nat) => []) (fun (gh : Nat) => G) (fun (gh : Nat) => gh ≤ x.props.length ∧ (x.props.take gh).any (fun p => badK p.key) = false) (fun (gh : Nat) => x.props.length - gh) (0) (by exact (H).sub ⟨rfl, rfl, rfl, rfl, trivial⟩) ?_ ?_
  · exact ⟨Nat.zero_le _, rfl⟩
  clear H; intro gh a w hI H; obtain ⟨n, hgh⟩ : ∃ x, x = gh := ⟨_, rfl⟩; subst hgh; obtain ⟨hn, hno⟩ := hI; dsimp only [List.cons_append, List.nil_append, List.append_nil] at H; refine c_seqR (fun _ hK29 => ?_); refine s_cmp H wn rfl rfl rfl rfl ?_; clear H; intro a H; refine hK29 _ _ ?_; clear hK29; refine c_seq (fun _ hK30 => ?_); refine c_cond H rfl ?_ ?_
  · intro h81
    try have p81 := of_decide_eq_true h81
    have hn2 : n < x.props.length := by omega
    obtain ⟨pb, po, rfl, hrow2⟩ := prop_at hp15 hn2; have hrow := hrow2; refine c_skip ?_; refine hK30 _ _ ?_; clear hK30; refine c_seq (fun _ hK31 => ?_); refine c_block ?_; refine c_seqR (fun _ hK32 => ?_); refine s_index un25run ty40run _ H wn rfl rfl rfl (by first | assumption | omega) rfl ?_; clear H; intro a H; refine s_loada ty40run (cs := [_, _]) H wn rfl rfl (fun j v hj => H.hp.gcell (hrow j v hj)) rfl ?_; clear H; intro a H; refine s_alloc ty40run H wn rfl ?_; clear H; intro b9 a w hb9 H; refine s_store ty40run 0 (vs := [_, _]) _ H wn rfl rfl rfl rfl rfl rfl rfl rfl ?_; clear H; intro w H; dsimp only [List.set, setRow] at H; refine hK32 _ _ ?_; clear hK32; refine c_seqR (fun _ hK33 => ?_); refine s_field fd40_0prp H wn rfl rfl ?_; clear H; intro a H; refine s_load ty3run H wn rfl (H.hp.ocell 0 rfl rfl) rfl ?_; clear H; intro a H; refine s_cmp H wn rfl rfl rfl rfl ?_; clear H; intro a H; refine s_move H wn rfl rfl ?_; clear H; intro a H; refine s_split H 87 rfl ?_ ?_
    · intro h87
      try have p87 := of_decide_eq_true h87
      (iterate 3 refine s_skip H rfl rfl h87 rfl ?_; clear H; intro a H); refine s_pick_t H wn rfl h87 rfl rfl ?_; clear H; intro a H; refine hK33 _ _ ?_; clear hK33; refine c_cond_t H rfl rfl ?_; refine c_seq (fun _ hK34 => ?_)
      have e4 : ownS l k x = 4 := by
        rw [ownS, ownE, if_neg (by omega), if_neg q1', if_neg q2', if_neg q3, if_neg q4, if_neg q5, if_pos]; rw [List.any_eq_true]; exact ⟨x.props[n], List.getElem_mem hn2, by simp [badK]; omega⟩
      refine c_region ?_; refine s_assign H wn rfl rfl ?_; clear H; intro a H; refine wl_nil ?_; refine hK34 _ _ ?_; clear hK34; refine c_ret ?_; refine (leave1 H Tryz.results103 (.cons (rv_tmp H rfl) .nil) ?_).1
      first
        | exact H.hp.ret (congrArg vi e0.symm)
        | exact H.hp.ret (congrArg vi e4.symm)
        | exact H.hp.ret (congrArg vi e7.symm)
        | exact H.hp.ret (congrArg vi e13.symm)
        | exact H.hp.ret (congrArg vi e3.symm)
        | exact H.hp.ret (congrArg vi e6.symm)
        | exact H.hp.ret (congrArg vi (by rw [ownS, ownE, if_pos (by omega)]))
    intro h87
    try have p87 := of_decide_eq_false h87
    refine s_field fd40_0prp H (wg H rfl rfl h87) rfl rfl ?_; clear H; intro a H; refine s_load ty3run H (wg H rfl rfl h87) rfl (H.hp.ocell 0 rfl rfl) rfl ?_; clear H; intro a H; refine s_cmp H (wg H rfl rfl h87) rfl rfl rfl rfl ?_; clear H; intro a H; refine s_pick_f H wn rfl h87 rfl rfl ?_; clear H; intro a H; refine hK33 _ _ ?_; clear hK33; refine c_cond H rfl ?_ ?_
    · intro h91
      try have p91 := of_decide_eq_true h91
      refine c_seq (fun _ hK35 => ?_)
      have e4 : ownS l k x = 4 := by
        rw [ownS, ownE, if_neg (by omega), if_neg q1', if_neg q2', if_neg q3, if_neg q4, if_neg q5, if_pos]; rw [List.any_eq_true]; exact ⟨x.props[n], List.getElem_mem hn2, by simp [badK]; omega⟩
      refine c_region ?_; refine s_assign H wn rfl rfl ?_; clear H; intro a H; refine wl_nil ?_; refine hK35 _ _ ?_; clear hK35; refine c_ret ?_; refine (leave1 H Tryz.results103 (.cons (rv_tmp H rfl) .nil) ?_).1
      first
        | exact H.hp.ret (congrArg vi e0.symm)
        | exact H.hp.ret (congrArg vi e4.symm)
        | exact H.hp.ret (congrArg vi e7.symm)
        | exact H.hp.ret (congrArg vi e13.symm)
        | exact H.hp.ret (congrArg vi e3.symm)
        | exact H.hp.ret (congrArg vi e6.symm)
        | exact H.hp.ret (congrArg vi (by rw [ownS, ownE, if_pos (by omega)]))
    intro h91
    try have p91 := of_decide_eq_false h91
    refine c_skip ?_; refine hK31 _ _ ?_; clear hK31; refine c_region ?_; refine s_add _ H wn rfl rfl rfl (by omega) (by omega) rfl ?_; clear H; intro a H; refine s_move H wn rfl rfl ?_; clear H; intro a H; refine wl_nil ?_; refine loop_end ((n + 1)) (by exact (H.pickT (Pl := [_, _]) (Pl' := [_]) [1] (by decide) rfl).sub ⟨rfl, rfl, rfl, rfl, trivial⟩) ?_ ?_
    · exact ⟨by omega, by rw [List.take_succ_eq_append_getElem hn2, List.any_append, hno]; simp [badK]; omega⟩
    first | omega | (dsimp only; omega)
  intro h81
  try have p81 := of_decide_eq_false h81
  refine c_exit ?_; refine hK27 _ _ ?_; clear hK27; refine c_seq (fun _ hK36 => ?_)
  have q6 : ¬ x.props.any (fun p => badK p.key) = true := by
    rw [show x.props.take n = x.props from List.take_of_length_le (by omega)] at hno; rw [hno]; decide
  have e0 : ownS l k x = chkPS (if x.kind = 1 then 2 else 1) x.props := by rw [ownS, ownE, if_neg (by omega), if_neg q1', if_neg q2', if_neg q3, if_neg q4, if_neg q5, if_neg q6]
  refine c_drawI (hmx) [[], [0], [0, 1], [], [3], [0, 1, 2, 3, 4], [0, 1, 2, 3, 4, 5]] [5, 6] (by kernel_rfl) (by kernel_rfl) (fun (ix_ : Nat) (v : Value) (G : GH) => match ix_ with | 0 => v = .pointer (some ⟨b5, 1, none⟩) | 1 => v = vi x.kind | 2 => v = vi (if x.kind = 1 then 2 else 1) | 3 => v = .pointer (some ⟨b5, 5, none⟩) | 4 => v = .slice pA x.props.length pc | _ => True) (fun _ _ _ _ _ h => h) H ?_ ?_
  · clear H; refine (allI_cons ?_ (allI_cons ?_ (allI_cons ?_ (allI_cons ?_ (allI_cons ?_ (allI_cons ?_ (allI_cons ?_ allI_nil)))))))
    · refine opI [] rfl trivial (by kernel_rfl) (fun _ _ _ _ _ h => h) rfl rfl ?_; intro Sd_ a w G1 hG HT H fin; refine s_field fd100_1sty H wn rfl rfl ?_; clear H; intro a H; exact fin H (fun _ _ h => h) (rfl)
    · refine opI [(0, 93, _)] rfl ⟨fun _ _ h => h, trivial⟩ (by kernel_rfl) (fun _ _ _ _ _ h => h) rfl rfl ?_; intro Sd_ a w G1 hG HT H fin; refine s_load ty3run H wn rfl (H.hp.ocell 0 rfl rfl) rfl ?_; clear H; intro a H; exact fin H (fun _ _ h => h) (rfl)
    · refine opI [(1, 94, _)] rfl ⟨fun _ _ h => h, trivial⟩ (by kernel_rfl) (fun _ _ _ _ _ h => h) rfl rfl ?_; intro Sd_ a w G1 hG HT H fin; refine s_call en179stz H wn rfl (element_spec _ _ H.hp.ro x.kind) rfl ?_; clear H; rintro v95 G95 a w rfl hGm95 H; exact fin H hGm95 (rfl)
    · refine opI [] rfl trivial (by kernel_rfl) (fun _ _ _ _ _ h => h) rfl rfl ?_; intro Sd_ a w G1 hG HT H fin; refine s_field fd100_5stz H wn rfl rfl ?_; clear H; intro a H; exact fin H (fun _ _ h => h) (rfl)
    · refine opI [(3, 96, _)] rfl ⟨fun _ _ h => h, trivial⟩ (by kernel_rfl) (fun _ _ _ _ _ h => h) rfl rfl ?_; intro Sd_ a w G1 hG HT H fin; refine s_load ty25run H wn rfl (H.hp.ocell 0 rfl rfl) rfl ?_; clear H; intro a H; exact fin H (fun _ _ h => h) (rfl)
    · intro _ _ _ _ hB; exact absurd hB (by decide)
    intro _ _ _ _ hB; exact absurd hB (by decide)
  clear H; intro a w G hGm21 H hv; obtain ⟨u95, hu95, hp95⟩ := hv 2 95 (by decide) rfl; obtain rfl : u95 = vi (if x.kind = 1 then 2 else 1) := hp95; have H := H.addS hu95; obtain ⟨u97, hu97, hp97⟩ := hv 4 97 (by decide) rfl; obtain rfl : u97 = .slice pA x.props.length pc := hp97; have H := H.addS hu97; clear hv; refine s_call en44stz H wn rfl (propCheck_spec _ _ H.hp.ro _ x.props _ (hp15.mono hGm21)) rfl ?_; clear H; rintro v98 G98 a w rfl hm98 H; refine s_assign H wn rfl rfl ?_; clear H; intro a H; refine wl_nil ⟨rfl, ?_⟩; refine hK36 _ _ ?_; clear hK36; refine c_ret ?_; refine (leave1 H Tryz.results103 (.cons (rv_tmp H rfl) .nil) ?_).1
  first
    | exact H.hp.ret (congrArg vi e0.symm)
    | exact H.hp.ret (congrArg vi e4.symm)
    | exact H.hp.ret (congrArg vi e7.symm)
    | exact H.hp.ret (congrArg vi e13.symm)
    | exact H.hp.ret (congrArg vi e3.symm)
    | exact H.hp.ret (congrArg vi e6.symm)
    | exact H.hp.ret (congrArg vi (by rw [ownS, ownE, if_pos (by omega)]))
end
section
open Go.RowKit
/-- The map that tells the place of each number of a list. -/
def mapI : Nat → List Int → List MapEntry
  | _, [] => []
  | i, k :: r => ⟨.int .i64 k, .int .i64 (i : Int), i⟩ :: mapI (i + 1) r
theorem mapI_snoc (x : Int) : ∀ (i : Nat) (l : List Int), mapI i (l ++ [x]) = mapI i l ++ [⟨.int .i64 x, .int .i64 ((i + l.length : Nat) : Int), i + l.length⟩]
  | _, [] => rfl
  | i, k :: r => by
    rw [List.cons_append, mapI, mapI_snoc x (i + 1) r, mapI, List.cons_append, List.length_cons, show i + 1 + r.length = i + (r.length + 1) by omega]
def idxI (x : Int) : Nat → List Int → Option Nat
  | _, [] => none
  | i, k :: r => if k = x then some i else idxI x (i + 1) r
theorem idxI_ge {x : Int} : ∀ {l : List Int} {i n : Nat}, idxI x i l = some n → i ≤ n
  | [], _, _, h => by cases h
  | k :: r, i, n, h => by
    rw [idxI] at h; split at h
    · cases h; exact Nat.le_refl _
    · have := idxI_ge h; omega
theorem idxI_none {x : Int} : ∀ {l : List Int} {i : Nat}, x ∉ l → idxI x i l = none
  | [], _, _ => rfl
  | k :: r, i, h => by
    rw [idxI, if_neg (fun e => h (by simp [e])), idxI_none (fun hm => h (List.mem_cons_of_mem _ hm))]
theorem findNow_mapI (x : Int) : ∀ (i j : Nat) (l : List Int), Instr.findNow (.int .i64) (.int .i64 x) (mapI i l) j = some ((idxI x i l).map fun n => (j + (n - i), .int .i64 (n : Int)))
  | _, _, [] => rfl
  | i, j, k :: r => by
    have ih := findNow_mapI x (i + 1) (j + 1) r
    by_cases e : k = x
    · subst e
      simp only [mapI, Instr.findNow, Instr.sameNow, if_pos, idxI, beq_self_eq_true]
      simp
    · have hb : (x == k) = false := by simp; exact fun h => e h.symm
      simp only [mapI, Instr.findNow, Instr.sameNow, if_pos, hb, idxI, if_neg e, ih]
      cases h : idxI x (i + 1) r with
      | none => rfl
      | some n =>
        have := idxI_ge h
        simp only [Option.map_some, Option.some.injEq, Prod.mk.injEq, and_true]
        omega
abbrev bMapI (b : Nat) (l : List Int) : Nat × Obj := (b, .map (mapI 0 l).toArray l.length)
theorem mapI_push (l : List Int) (x : Int) : (mapI 0 l).toArray.push ⟨.int .i64 x, .int .i64 (l.length : Int), l.length⟩ = (mapI 0 (l ++ [x])).toArray := by
  rw [mapI_snoc, List.push_toArray, Nat.zero_add]
end
section
open Go.RowKit
section
variable {P : Program} {N : Nat} {D : List Deferred} {w0 w w' : World} {F : Nat → Prop} {G0 G G' : GH} {L L' Li Lo : OL} {T : List (Nat × Value)} {a a' : Act} {Q : Exit → Act → World → Prop}
variable {r : Option Nat} {ops : Array Oper} {rest : List Oper}
/-- gv, that owns the blocks B, calls what it is handed at each of xs in turn, till it says no. -/
def IterO (P : Program) (Gi : GH) (B : OL) (gv : Value) (xs : List AP) : Prop :=
  ∀ (J : Nat → GH → OL → Prop) (Jx : GH → OL → Prop) (fv : Value) (G : GH) (L : OL) (w : World), fv.cells = #[fv] → (∀ b o, Gi b = some o → G b = some o) → JMono J → XMono Jx → J 0 G L → Owns G (B ++ L) w → Cback P fv G xs J Jx →
    CallV P gv [fv] w (RetL w G (B ++ L) fun _ G' L' => J xs.length G' L' ∨ Jx G' L')
theorem IterO.mono {Gi Gi' : GH} {B : OL} {gv : Value} {xs : List AP} (h : IterO P Gi B gv xs) (hm : ∀ b o, Gi b = some o → Gi' b = some o) : IterO P Gi' B gv xs :=
  fun J Jx fv G L w h0 h1 => h J Jx fv G L w h0 fun b o hb => h1 b o (hm b o hb)
end
end
section
open Go.RowKit
section
variable {P : Program} {N : Nat} {D : List Deferred} {w0 w w' : World} {F : Nat → Prop} {G0 G G' : GH} {L L' Li Lo : OL} {T : List (Nat × Value)} {a a' : Act} {Q : Exit → Act → World → Prop}
variable {r : Option Nat} {ops : Array Oper} {rest : List Oper}
/-- gv, that owns the blocks B, calls what it is handed at each of xs in turn, till it says no; where fin is false, it is only said what it does where it is stopped by then. -/
def IterI (P : Program) (Gi : GH) (B : OL) (gv : Value) (xs : List AP) (fin : Bool) : Prop :=
  ∀ (J : Nat → GH → OL → Prop) (Jx : GH → OL → Prop) (fv : Value) (G : GH) (L : OL) (w : World), fv.cells = #[fv] → (∀ b o, Gi b = some o → G b = some o) → JMono J → XMono Jx → J 0 G L → Owns G (B ++ L) w → Cback P fv G xs J Jx → (fin = false → ∀ g l, ¬ J xs.length g l) →
    CallV P gv [fv] w (RetL w G (B ++ L) fun _ G' L' => J xs.length G' L' ∨ Jx G' L')
theorem IterI.mono {Gi Gi' : GH} {B : OL} {gv : Value} {xs : List AP} {fin : Bool} (h : IterI P Gi B gv xs fin) (hm : ∀ b o, Gi b = some o → Gi' b = some o) : IterI P Gi' B gv xs fin :=
  fun J Jx fv G L w h0 h1 => h J Jx fv G L w h0 fun b o hb => h1 b o (hm b o hb)
theorem c_rangeI {fin : Bool} {B : OL} {gop : Operand} {ps : List Nat} {assign body : Code} {gf : FuncId} {caps : List Value} {xs : List AP} {Gi : GH}
    (H : St N D w0 F G0 G (B ++ L) T a w) (hg : ev T gop = some (.func (.func gf) #[] caps.toArray)) (en : ∀ args w, (callFunc gf args).run P w = .ok (.enter gf args) w) (hit : IterI P Gi B (.func (.func gf) #[] caps.toArray) xs fin) (hGi : ∀ b o, Gi b = some o → G b = some o)
    (hps : ps.all (Nat.blt · N) = true) (hlen : ∀ k args g, AtAP xs k args g → args.length = ps.length)
    (J : Nat → GH → OL → Prop) (Jx : Code → GH → OL → Prop) (hno : fin = false → ∀ g l, ¬ J xs.length g l) (hJm : JMono J) (hJx : ∀ c, XMono (Jx c)) (h0 : J 0 G L) (hround : RoundOk P N ps assign body T G J Jx xs)
    (hdone : ∀ Dk G1 L1 a1 w1, (∀ b o, G b = some o → G1 b = some o) → J xs.length G1 L1 → St N ({ target := .collected Dk, args := #[] } :: D) w0 F G0 G1 ((Dk, .deferred (some [])) :: L1) T a1 w1 → Q .normal a1 w1)
    (hstop : ∀ Dk c G1 L1 a1 w1, (∀ b o, G b = some o → G1 b = some o) → Jx c G1 L1 → St N ({ target := .collected Dk, args := #[] } :: D) w0 F G0 G1 ((Dk, .deferred (some [])) :: L1) T a1 w1 → WP none P c Q a1 w1) :
    WP none P (.rangeFunc gop ps.toArray assign body) Q a w := by
  refine wpIn_rangeFunc ?_
  intro fn _
  have hev := H.ev hg
  let q : Rec := ⟨fn, a.tmps, ps.toArray, assign, body, w.heap.size⟩
  obtain ⟨W1, hW1⟩ : ∃ W1, W1 = (w.alloc (.deferred (some []))).alloc (q.at .ready none) := ⟨_, rfl⟩
  have H1 : Hp w0 F G0 G (B ++ ((w.heap.size + 1, q.at .ready none) :: (w.heap.size, .deferred (some [])) :: L)) W1 := by
    have := (H.hp.alloc (.deferred (some []))).alloc (q.at .ready none)
    rw [World.size_alloc] at this
    rw [hW1]
    refine this.perm ?_
    have e := List.perm_append_comm (l₁ := [(w.heap.size + 1, q.at .ready none), (w.heap.size, Obj.deferred (some []))]) (l₂ := B)
    have e2 := List.Perm.append_right L e
    rw [List.append_assoc, List.append_assoc] at e2
    exact e2
  refine ⟨w.heap.size + 1, [{ target := .collected w.heap.size, args := #[] }], W1, { target := .fn (.func gf) caps.toArray, args := #[.func (.yield (w.heap.size + 1)) #[] #[]] }, W1, gf,
    #[.func (.yield (w.heap.size + 1)) #[] #[]] ++ caps.toArray, W1, by rw [hW1]; exact run_enterLoop_outer fn a.tmps ps.toArray assign body, ?_, fun _ _ => trivial, ?_, FW_depth none, ?_⟩
  · simp only [resolve, rangeCall, hev]
    simp [Deferred.ofValue, Act.eval]
  · simp [invoke, en]
  · have hcv := hit (fun k => Jr (w.heap.size + 1) q [(w.heap.size, .deferred (some []))] (J k)) (Jrx (w.heap.size + 1) q [(w.heap.size, .deferred (some []))] Jx) (.func (.yield (w.heap.size + 1)) #[] #[]) G
      ((w.heap.size + 1, q.at .ready none) :: (w.heap.size, .deferred (some [])) :: L) W1 rfl hGi (fun k G G' L hm ⟨Lu, e, h⟩ => ⟨Lu, e, hJm k G G' Lu hm h⟩) (fun G G' L hm ⟨c, Lu, e, h⟩ => ⟨c, Lu, e, hJx c G G' Lu hm h⟩) ⟨L, rfl, h0⟩ (Hp.owns (Li := []) H1) (cback_yield H.asz H.get hps hlen hround) (fun e g l ⟨Lu, _, h⟩ => hno e g Lu h)
    replace hcv := hcv.go
    have e : (do let d ← Deferred.ofValue (.func (.func gf) #[] caps.toArray) [Value.func (.yield (w.heap.size + 1)) #[] #[]].toArray; invoke d.target d.args : Sem Next).run P W1 = .ok (.enter gf (#[.func (.yield (w.heap.size + 1)) #[] #[]] ++ caps.toArray)) W1 := by
      simp [Deferred.ofValue, invoke, en]
    rw [e] at hcv
    refine (callsIn_of_calls hcv).mono ?_
    rintro e w2 ⟨v, G2, L2, rfl, hch, hJ⟩
    have H2 := Hp.change (Li := []) H1 hch
    rcases hJ with ⟨Lu, rfl, hJ⟩ | ⟨c, Lu, rfl, hJ⟩
    · have hl := H2.own _ (List.mem_cons_self)
      have H3 := (H2.upd (i := 0) rfl (upd_putObj (q.at .exhausted none) hl)).drop (List.sublist_cons_self _ _)
      exact ⟨none, _, run_endLoop hl (by simp), hdone _ G2 Lu _ _ hch.gm hJ ⟨H.asz, H.get, by simp [H.dfr], H3⟩⟩
    · have hl := H2.own _ (List.mem_cons_self)
      have H3 := (H2.upd (i := 0) rfl (upd_putObj (q.at .exhausted (some c)) hl)).drop (List.sublist_cons_self _ _)
      exact ⟨some c, _, run_endLoop hl (by simp), hstop _ c G2 Lu _ _ hch.gm hJ ⟨H.asz, H.get, by simp [H.dfr], H3⟩⟩
/-- A range over a function whose state is told by ghosts. -/
theorem c_rangeJI {fin : Bool} {B : OL} {ι κ : Type} {Lc : OL} {gop : Operand} {ps : List Nat} {assign body : Code} {gf : FuncId} {caps : List Value} {xs : List AP} {Gi : GH}
    (Lv : Nat → ι → OL) (Lt : Nat → ι → OL) (inv : Nat → ι → GH → Prop) (cx : κ → Code) (Lx Lxt : κ → OL) (invx : κ → GH → Prop) (i0 : ι)
    (H : St N D w0 F G0 G (B ++ (Lc ++ Lv 0 i0 ++ Lt 0 i0)) T a w) (hg : ev T gop = some (.func (.func gf) #[] caps.toArray)) (en : ∀ args w, (callFunc gf args).run P w = .ok (.enter gf args) w) (hit : IterI P Gi B (.func (.func gf) #[] caps.toArray) xs fin) (hGi : ∀ b o, Gi b = some o → G b = some o)
    (hno : fin = false → ∀ i g, ¬ inv xs.length i g) (hps : ps.all (Nat.blt · N) = true) (hlen : ∀ k args g, AtAP xs k args g → args.length = ps.length) (hinv : ∀ k i (G G' : GH), (∀ b o, G b = some o → G' b = some o) → inv k i G → inv k i G') (hinvx : ∀ x (G G' : GH), (∀ b o, G b = some o → G' b = some o) → invx x G → invx x G') (h0 : inv 0 i0 G)
    (round : ∀ (l : Nat) (rdy bsy : Obj) (bk : OL) (k : Nat) (args : List Value) (i : ι) (G1 : GH) (w1 : World) (F1 : Nat → Prop) (B1 : Code → Exit → Act → World → Prop) (a1 : Act), AtAP xs k args G1 → (∀ b o, G b = some o → G1 b = some o) → inv k i G1 →
      (∀ T' G2 L2 a2 w2 c, St N [] w1 F1 G1 G2 ((l, rdy) :: L2) T' a2 w2 → (∀ w3, St N [] w1 F1 G1 G2 ((l, bsy) :: L2) T' a2 w3 → WP (some l) P c (B1 c) a2 w3) → Exit.then (fun a2 w2 => ∃ w3, (Instr.beginRound l).run P w2 = .ok () w3 ∧ c.wpIn (FW (some l)) 0 P (B1 c) a2 w3) (fun _ _ _ => False) .normal a2 w2) →
      (∀ i' T' G2 a2 w2 c, St N [] w1 F1 G1 G2 ((l, bsy) :: (Lc ++ Lv (k + 1) i' ++ (bk ++ Lt (k + 1) i'))) T' a2 w2 → inv (k + 1) i' G2 → B1 c .normal a2 w2) →
      (∀ x T' G2 a2 w2 c, St N [] w1 F1 G1 G2 ((l, bsy) :: (Lc ++ Lx x ++ (bk ++ Lxt x))) T' a2 w2 → invx x G2 → (cx x = .ret → B1 c .ret a2 w2) ∧ ∀ n, cx x = .exit n → B1 c (.exit n) a2 w2) →
      St N [] w1 F1 G1 G1 ((l, rdy) :: (Lc ++ Lv k i ++ (bk ++ Lt k i))) (asg ps args T) a1 w1 →
      WP (some l) P assign (Exit.then (fun a2 w2 => ∃ w3, (Instr.beginRound l).run P w2 = .ok () w3 ∧ body.wpIn (FW (some l)) 0 P (B1 body) a2 w3) (fun _ _ _ => False)) a1 w1)
    (hdone : ∀ Dk i G1 a1 w1, (∀ b o, G b = some o → G1 b = some o) → inv xs.length i G1 → St N ({ target := .collected Dk, args := #[] } :: D) w0 F G0 G1 ((Dk, .deferred (some [])) :: (Lc ++ Lv xs.length i ++ Lt xs.length i)) T a1 w1 → Q .normal a1 w1)
    (hstop : ∀ Dk x G1 a1 w1, (∀ b o, G b = some o → G1 b = some o) → invx x G1 → St N ({ target := .collected Dk, args := #[] } :: D) w0 F G0 G1 ((Dk, .deferred (some [])) :: (Lc ++ Lx x ++ Lxt x)) T a1 w1 → WP none P (cx x) Q a1 w1) :
    WP none P (.rangeFunc gop ps.toArray assign body) Q a w := by
  refine c_rangeI (J := fun k g L => ∃ i, L = Lc ++ Lv k i ++ Lt k i ∧ inv k i g) (Jx := fun c g L => ∃ x, c = cx x ∧ L = Lc ++ Lx x ++ Lxt x ∧ invx x g) H hg en hit hGi hps hlen (hno := fun e g l ⟨i, _, h⟩ => hno e i g h) (fun k G G' L hm ⟨i, e, h⟩ => ⟨i, e, hinv k i G G' hm h⟩) (fun c G G' L hm ⟨x, e1, e2, h⟩ => ⟨x, e1, e2, hinvx x G G' hm h⟩) ⟨i0, rfl, h0⟩ ?_ ?_ ?_
  · rintro l q bk k args G1 L1 w1 a1 hk hm ⟨i, rfl, hi⟩ H1
    have pm : ∀ A B : OL, (bk ++ (A ++ B)).Perm (A ++ (bk ++ B)) := fun A B => by
      rw [← List.append_assoc, ← List.append_assoc]
      exact List.Perm.append_right B List.perm_append_comm
    refine round l (q.at .ready none) (q.at .busy none) bk k args i G1 w1 _ (fun _ => roundPost P l _) a1 hk hm hi ?_ ?_ ?_ (H1.perm (List.Perm.cons _ (pm _ _)))
    · intro T' G2 L2 a2 w2 c H2 h
      exact c_begin H2 h
    · intro i' T' G2 a2 w2 c H2 h2
      exact round_end none (H2.perm (List.Perm.cons _ (pm _ _).symm)) ⟨_, rfl, i', rfl, h2⟩
    · intro x T' G2 a2 w2 c H2 h2
      have H3 := H2.perm (List.Perm.cons _ (pm _ _).symm)
      refine ⟨fun e => ?_, fun n e => ?_⟩
      · exact round_end (some .ret) H3 ⟨_, _, rfl, x, e.symm, rfl, h2⟩
      · exact round_end (some (.exit n)) H3 ⟨_, _, rfl, x, e.symm, rfl, h2⟩
  · rintro Dk G1 L1 a1 w1 hm ⟨i, rfl, hi⟩ H1
    exact hdone Dk i G1 a1 w1 hm hi H1
  · rintro Dk c G1 L1 a1 w1 hm ⟨x, rfl, rfl, hx⟩ H1
    exact hstop Dk x G1 a1 w1 hm hx H1
end
end
section
open Go.RowKit
theorem un137chn : Tryz.prog.underlying 137 = some (.map 3 3) := by kernel_rfl
theorem ty41chn : Ty Tryz.prog 41 1 24 [.slice none 0 0] false := ⟨by kernel_rfl, by kernel_rfl⟩
theorem fd100_3chn : Fld Tryz.prog 100 3 3 := ⟨by kernel_rfl⟩
theorem en181chn : ∀ args w, (callFunc 181 args).run Tryz.prog w = .ok (.enter 181 args) w := enters Tryz.func181 rfl (by kernel_rfl)
theorem idxI_lt {x : Int} : ∀ {l : List Int} {i n : Nat}, idxI x i l = some n → n < i + l.length
  | [], _, _, h => by cases h
  | k :: r, i, n, h => by
    rw [idxI] at h; split at h
    · cases h; simp
    have := idxI_lt h; simp only [List.length_cons]; omega
/-- The chain of a style: at most so many of its styles. -/
def chF (l : List StyleD) : Nat → Int → List StyleD
  | 0, _ => []
  | f + 1, id => if id = 0 then [] else match idxI id 0 (l.map StyleD.id) with | none => [] | some i => match l[i]? with | none => [] | some s => s :: chF l f s.base
def chL (l : List StyleD) (id : Int) : List StyleD := chF l (l.length + 1) id
theorem chF_zero {l : List StyleD} {f : Nat} {id : Int} (h : id = 0) : chF l f id = [] := by
  cases f with
  | zero => rfl
  | succ f => rw [chF, if_pos h]
theorem chF_none {l : List StyleD} {f : Nat} {id : Int} (h0 : ¬ id = 0) (h : idxI id 0 (l.map StyleD.id) = none) : chF l f id = [] := by
  cases f with
  | zero => rfl
  | succ f => rw [chF, if_neg h0, h]
theorem chF_some {l : List StyleD} {f i : Nat} {id : Int} (h0 : ¬ id = 0) (h : idxI id 0 (l.map StyleD.id) = some i) (hi : i < l.length) : chF l (f + 1) id = l[i] :: chF l f l[i].base := by
  rw [chF, if_neg h0, h]; dsimp only; rw [List.getElem?_eq_getElem hi]
def stP (x : StyleD) : AP := fun args g => ∃ cs, args = [.agg cs.toArray] ∧ RepRow g x.dat cs
theorem st_at {A : List StyleD} {k : Nat} {args : List Value} {g : GH} (h : AtAP (A.map stP) k args g) : ∃ (hk : k < A.length) (cs : List Value), args = [.agg cs.toArray] ∧ RepRow g A[k].dat cs := by
  obtain ⟨p, hp, hargs⟩ := h; rw [List.getElem?_map] at hp; obtain ⟨q, hq, rfl⟩ := Option.map_eq_some_iff.1 hp; obtain ⟨hk, rfl⟩ := List.getElem?_eq_some_iff.1 hq; obtain ⟨cs, h1, h2⟩ := hargs; exact ⟨hk, cs, h1, h2⟩
theorem chF_get {l : List StyleD} : ∀ {f : Nat} {id : Int} {x : StyleD}, x ∈ chF l f id → x ∈ l
  | 0, _, _, h => by cases h
  | f + 1, id, x, h => by
    rw [chF] at h; split at h
    · cases h
    split at h
    · cases h
    split at h
    · cases h
    rename_i s hs
    rcases List.mem_cons.1 h with rfl | h
    · exact List.mem_of_getElem? hs
    exact chF_get h
abbrev bI (b : Nat) (n : Int) : Nat × Obj := (b, .cells #[vi n] 3 (0, 0))
set_option maxHeartbeats 1000000 in
theorem chain1_iter {G : GH} {bl bi : Nat} {l : List StyleD} {id : Int} {v : Value} (hb : gcell G bl 0 = some v) (hv : RepV G (.sl 6 (l.map StyleD.dat)) v) (hnd : ∀ (k : Nat) (h : k < l.length), l[k].id ∉ (l.take k).map StyleD.id) :
    IterI Tryz.prog G [bI bi id] (.func (.func 181) #[] #[.pointer (some ⟨bl, 0, none⟩), .pointer (some ⟨bi, 0, none⟩)]) ((chL l id).map stP) (decide ((chL l id).length ≤ l.length)) := by
  intro J Jx fv G1 L w0 hfv hGi hJm hJx hJ hO hcb hfin; refine callV_func (caps := [.pointer (some ⟨bl, 0, none⟩), .pointer (some ⟨bi, 0, none⟩)]) en181chn ?_; obtain ⟨A, c, rfl, hc1, hc2, -⟩ := hv.slice; have hml : maxLen = 9223372036854775807 := rfl; rw [List.length_map] at *; replace hb := gcell_mono hGi hb; replace hv := hv.mono hGi; refine enterL (N := 46) (T := [(0, _), (1, _), (2, _)]) Tryz.func181 rfl Tryz.ntmps181 rfl rfl hO ?_; intro a H; refine c_seqR (fun _ hK1 => ?_); refine s_makeMap H wn rfl ?_; clear H; intro bm a w hbm H; refine s_assign H wn rfl rfl ?_; clear H; intro a H; refine hK1 _ _ ?_; clear hK1; refine c_seq (fun _ hK2 => ?_); refine c_seqR (fun _ hK3 => ?_); refine s_load ty41chn H wn rfl (H.hp.gcell (by assumption)) rfl ?_; clear H; intro a H; refine s_len un41sty H wn rfl rfl ?_; clear H; intro a H; refine s_move H wn rfl rfl ?_; clear H; intro a H; refine hK3 _ _ ?_; clear hK3; refine c_block ?_; skip; refine c_loopS (ι := Nat) (Tc := [(0, _), (1, _), (2, _), (4, _), (10, _), (11, _)]) (Lc := [(_, _)]) (fun (gh : Nat) => [(12, vi gh)]) (fun (gh : Nat) => [bMapI bm ((l.take gh).map StyleD.id)] ++ L) (fun (gh : Nat) => G1) (fun (gh : Nat) => gh ≤ l.length) (fun (gh : Nat) => l.length - gh) (0) (by exact (H.pickT (Pl := [_, _]) (Pl' := [_, _]) [1, 0] (by decide) rfl).sub ⟨rfl, rfl, rfl, rfl, rfl, rfl, rfl, trivial⟩) ?_ ?_
  · exact Nat.zero_le _
  clear H; intro gh a w hI H; obtain ⟨k, hgh⟩ : ∃ x, x = gh := ⟨_, rfl⟩; subst hgh; have hk := hI; dsimp only [List.cons_append, List.nil_append, List.append_nil] at H; refine c_seqR (fun _ hK4 => ?_); refine s_cmp H wn rfl rfl rfl rfl ?_; clear H; intro a H; refine hK4 _ _ ?_; clear hK4; refine c_seq (fun _ hK5 => ?_); refine c_cond H rfl ?_ ?_
  · intro h13
    try have p13 := of_decide_eq_true h13
    have hk2 : k < l.length := by omega
    obtain ⟨b, o, pA, pc, rfl, hrow, hp, hrep⟩ := style_at hv hk2; have hnin := hnd k hk2
    have hlk : ((l.take k).map StyleD.id).length = k := by rw [List.length_map, List.length_take]; omega
    have hnx : (l.take k).map StyleD.id ++ [l[k].id] = (l.take (k + 1)).map StyleD.id := by rw [List.take_succ_eq_append_getElem hk2, List.map_append]; rfl
    refine c_skip ?_; refine hK5 _ _ ?_; clear hK5; refine c_seq (fun _ hK6 => ?_); refine c_block ?_; refine c_seqR (fun _ hK7 => ?_); refine s_move H wn rfl rfl ?_; clear H; intro a H; refine s_index un41sty ty100sty _ H wn rfl rfl rfl (by first | assumption | omega) rfl ?_; clear H; intro a H; refine s_loada ty100sty (cs := [_, _, _, _, _, _]) H wn rfl rfl (fun j v hj => H.hp.gcell (hrow j v hj)) rfl ?_; clear H; intro a H; refine s_alloc ty100sty H wn rfl ?_; clear H; intro b6 a w hb6 H; refine s_assign H wn rfl rfl ?_; clear H; intro a H; refine s_store ty100sty 0 (vs := [_, _, _, _, _, _]) _ H wn rfl rfl rfl rfl rfl rfl rfl rfl ?_; clear H; intro w H; dsimp only [List.set, setRow] at H; refine hK7 _ _ ?_; clear hK7; refine c_region ?_; refine s_move H wn rfl rfl ?_; clear H; intro a H; refine s_field fd100_0sty H wn rfl rfl ?_; clear H; intro a H; refine s_load ty3run H wn rfl (H.hp.ocell 0 rfl rfl) rfl ?_; clear H; intro a H; refine s_move H wn rfl rfl ?_; clear H; intro a H; refine s_mapNew (i := 2) (ky := vi l[k].id) (v := vi k) un137chn un3cp H wn rfl rfl rfl rfl (by trivial) (by rw [List.toList_toArray, findNow_mapI, idxI_none hnin]; rfl) ?_; clear H; intro w H
    have hpush : ((mapI 0 ((l.take k).map StyleD.id)).toArray.push ⟨vi l[k].id, vi k, ((l.take k).map StyleD.id).length⟩) = (mapI 0 ((l.take (k + 1)).map StyleD.id)).toArray := by rw [← hnx, ← mapI_push, hlk]
    rw [hpush, show ((l.take k).map StyleD.id).length + 1 = ((l.take (k + 1)).map StyleD.id).length by rw [← hnx]; simp] at H; refine wl_nil ?_; refine hK6 _ _ ?_; clear hK6; refine c_region ?_; refine s_add _ H wn rfl rfl rfl (by omega) (by omega) rfl ?_; clear H; intro a H; refine s_move H wn rfl rfl ?_; clear H; intro a H; refine wl_nil ?_; refine loop_end ((k + 1)) (by exact (H.pickT (Pl := [_, _, _]) (Pl' := [_, _]) [1, 2] (by decide) rfl).sub ⟨rfl, rfl, rfl, rfl, rfl, rfl, rfl, trivial⟩) ?_ ?_
    · exact by omega
    first | omega | (dsimp only; omega)
  intro h13
  try have p13 := of_decide_eq_false h13
  obtain rfl : k = l.length := by omega
  rw [List.take_length] at H; refine c_exit ?_; refine hK2 _ _ ?_; clear hK2; refine c_block ?_; skip; refine c_loopS (ι := Int × Nat × Nat × OL × GH) (Tc := [(0, _), (1, _), (2, _), (4, _)]) (Lc := [(_, _)]) (fun (gh : Int × Nat × Nat × OL × GH) => []) (fun (gh : Int × Nat × Nat × OL × GH) => [bI bi gh.1] ++ gh.2.2.2.1) (fun (gh : Int × Nat × Nat × OL × GH) => gh.2.2.2.2) (fun (gh : Int × Nat × Nat × OL × GH) => (∀ b o, G1 b = some o → gh.2.2.2.2 b = some o) ∧ Now ((chL l id).map stP) stP J (chL l id).length gh.2.2.1 (chF l gh.2.1 gh.1) gh.2.2.2.2 gh.2.2.2.1 ∧ gh.2.2.1 + gh.2.1 = l.length + 1) (fun (gh : Int × Nat × Nat × OL × GH) => gh.2.1) ((id, l.length + 1, 0, L, G1)) (by exact (H.pickT (Pl := [_, _]) (Pl' := [_, _]) [1, 0] (by decide) rfl).sub ⟨rfl, rfl, rfl, rfl, trivial⟩) ?_ ?_
  · exact ⟨fun _ _ h => h, ⟨hJ, fun i a h => by rw [Nat.zero_add, List.getElem?_map]; rw [show chF l (l.length + 1) id = chL l id from rfl] at h; rw [h]; rfl, Nat.zero_add _⟩, Nat.zero_add _⟩
  clear H; intro gh a w hI H; obtain ⟨i, f, j1, Lt, g⟩ := gh; dsimp only at hI H; obtain ⟨hgm, hnow, hjf⟩ := hI; have hbg := gcell_mono hgm hb; dsimp only [List.cons_append, List.nil_append, List.append_nil] at H; refine c_seq (fun _ hK8 => ?_); refine c_seqR (fun _ hK9 => ?_); refine s_load ty3run H wn rfl (H.hp.ocell 1 rfl rfl) rfl ?_; clear H; intro a H; refine s_cmp H wn rfl rfl rfl rfl ?_; clear H; intro a H; refine hK9 _ _ ?_; clear hK9; refine c_cond H rfl ?_ ?_
  · intro h23
    try have p23 := of_decide_eq_true h23
    have h0 : ¬ i = 0 := by simpa using h23
    obtain ⟨an, han⟩ : ∃ an, an = idxI i 0 (l.map StyleD.id) := ⟨_, rfl⟩; have hfn := findNow_mapI i 0 0 (l.map StyleD.id); rw [← han] at hfn; refine c_skip ?_; refine hK8 _ _ ?_; clear hK8; refine c_block ?_; refine c_seqR (fun _ hK10 => ?_); refine s_move H wn rfl rfl ?_; clear H; intro a H; refine s_load ty3run H wn rfl (H.hp.ocell 1 rfl rfl) rfl ?_; clear H; intro a H; refine s_lookup (i := 0) (zv := vi 0) _ un137chn un3cp (by kernel_rfl) H wn rfl rfl rfl (by trivial) (by simpa using hfn) rfl ?_; clear H; intro a H; refine s_move H wn rfl rfl ?_; clear H; intro a H; (iterate 2 refine s_extract H wn rfl rfl rfl ?_; clear H; intro a H); (iterate 2 refine s_assign H wn rfl rfl ?_; clear H; intro a H); refine hK10 _ _ ?_; clear hK10; refine c_seq (fun _ hK11 => ?_); refine c_seqR (fun _ hK12 => ?_); refine s_move H wn rfl rfl ?_; clear H; intro a H; refine s_not H wn rfl rfl ?_; clear H; intro a H; refine s_move H wn rfl rfl ?_; clear H; intro a H; refine s_split H 32 rfl ?_ ?_
    · intro h32
      try have p32 := of_decide_eq_true h32
      obtain rfl : an = none := by
        cases an with
        | none => rfl
        | some n => simp [mapV] at h32
      rw [chF_none h0 han.symm] at hnow; (iterate 7 refine s_skip H rfl rfl h32 rfl ?_; clear H; intro a H); refine s_pick_t H wn rfl h32 rfl rfl ?_; clear H; intro a H; refine hK12 _ _ ?_; clear hK12; refine c_cond_t H rfl rfl ?_; refine c_ret ?_; refine (leave0 H Tryz.results181 ?_).1; refine H.hp.retD (L' := Lt) (by repeat (first | exact List.Sublist.refl _ | apply List.Sublist.cons)) (.inl ?_); have h := hnow.len
      simp only [List.length_nil, Nat.add_zero] at h
      rw [← h]; exact hnow.now
    intro h32
    try have p32 := of_decide_eq_false h32
    obtain ⟨n, rfl⟩ : ∃ n, an = some n := by
      cases an with
      | none => simp [mapV] at h32
      | some n => exact ⟨n, rfl⟩
    have hnl : n < l.length := by have := idxI_lt han.symm; simpa using this
    obtain ⟨f', rfl⟩ : ∃ f', f = f' + 1 := by
      cases f with
      | succ f' => exact ⟨f', rfl⟩
      | zero =>
        exfalso
        have hl := hnow.len
        simp only [chF, List.length_nil, Nat.add_zero] at hl
        refine hfin (decide_eq_false (by omega)) g Lt ?_; rw [← hl]; exact hnow.now
    rw [chF_some h0 han.symm hnl] at hnow; dsimp only [mapV, Option.map_some] at H; obtain ⟨b, o, pA, pc, rfl, hrow, hp, hrep⟩ := style_at (hv.mono hgm) hnl; refine s_move H (wg H rfl rfl h32) rfl rfl ?_; clear H; intro a H; refine s_load ty41chn H (wg H rfl rfl h32) rfl (H.hp.gcell (by assumption)) rfl ?_; clear H; intro a H; refine s_move H (wg H rfl rfl h32) rfl rfl ?_; clear H; intro a H; refine s_index un41sty ty100sty _ H (wg H rfl rfl h32) rfl rfl rfl (by first | assumption | omega) rfl ?_; clear H; intro a H; refine s_loada ty100sty (cs := [_, _, _, _, _, _]) H (wg H rfl rfl h32) rfl rfl (fun j v hj => H.hp.gcell (hrow j v hj)) rfl ?_; clear H; intro a H; refine s_callv (Li := [_, _]) (L := Lt) H (wg H rfl rfl h32) rfl rfl (hcb j1 _ _ _ _ ⟨_, hnow.head, _, rfl, hrep⟩ hgm hnow.now (Hp.owns (Li := [_, _]) H.hp)) rfl ?_; clear H; rintro v38 G38 Lt38 a w ⟨b38, rfl, hb1, hb2⟩ hm38 H; have hbg := gcell_mono hm38 hbg; have r3 := gcell_mono hm38 (hrow 3 _ rfl); refine s_not H (wg H rfl rfl h32) rfl rfl ?_; clear H; intro a H; refine s_pick_f H wn rfl h32 rfl rfl ?_; clear H; intro a H; refine hK12 _ _ ?_; clear hK12; refine c_cond H rfl ?_ ?_
    · intro h40
      try have p40 := of_decide_eq_true h40
      refine c_ret ?_; refine (leave0 H Tryz.results181 ?_).1; exact H.hp.retD (L' := Lt38) (by repeat (first | exact List.Sublist.refl _ | apply List.Sublist.cons)) (.inr (hb2 (by simpa using h40)))
    intro h40
    try have p40 := of_decide_eq_false h40
    refine c_skip ?_; refine hK11 _ _ ?_; clear hK11; refine c_region ?_; refine s_load ty41chn H wn rfl (H.hp.gcell (by assumption)) rfl ?_; clear H; intro a H; refine s_move H wn rfl rfl ?_; clear H; intro a H; refine s_index un41sty ty100sty _ H wn rfl rfl rfl (by first | assumption | omega) rfl ?_; clear H; intro a H; refine s_field fd100_3chn H wn rfl rfl ?_; clear H; intro a H; refine s_load ty3run H wn rfl (H.hp.gcell (by assumption)) rfl ?_; clear H; intro a H; refine s_store ty3run 1 (vs := [_]) _ H wn rfl rfl rfl rfl rfl rfl rfl rfl ?_; clear H; intro w H; dsimp only [List.set, setRow] at H; refine wl_nil ?_; refine loop_end ((l[n].base, f', j1 + 1, Lt38, G38)) (by exact (H).sub ⟨rfl, rfl, rfl, rfl, trivial⟩) ?_ ?_
    · (try dsimp only); exact ⟨fun b o h => hm38 b o (hgm b o h), hnow.step (hb1 (by simpa using h40)), by omega⟩
    first | omega | (dsimp only; omega)
  intro h23
  try have p23 := of_decide_eq_false h23
  refine c_exit ?_; refine (leave0 H Tryz.results181 ?_).2; rw [chF_zero (by simpa using h23)] at hnow; refine H.hp.retD (L' := Lt) (by repeat (first | exact List.Sublist.refl _ | apply List.Sublist.cons)) (.inl ?_); have h := hnow.len
  simp only [List.length_nil, Nat.add_zero] at h
  rw [← h]; exact hnow.now
end
section
open Go.RowKit
theorem en105chk : ∀ args w, (callFunc 105 args).run Tryz.prog w = .ok (.enter 105 args) w := enters Tryz.func105 rfl (by kernel_rfl)
theorem en103chk : ∀ args w, (callFunc 103 args).run Tryz.prog w = .ok (.enter 103 args) w := enters Tryz.func103 rfl (by kernel_rfl)
theorem en104chk : ∀ args w, (callFunc 104 args).run Tryz.prog w = .ok (.enter 104 args) w := enters Tryz.func104 rfl (by kernel_rfl)
theorem fd100_4chk : Fld Tryz.prog 100 4 4 := ⟨by kernel_rfl⟩
theorem chain_spec {G : GH} {w0 : World} (hO : Owns G [] w0) (l : List StyleD) (id : Int) (v : Value) (hv : RepV G (.sl 6 (l.map StyleD.dat)) v) :
    Calls Tryz.prog 105 #[v, vi id] w0 (RetL w0 G [] fun u G' L' => ∃ bl bi, u = .func (.func 181) #[] #[.pointer (some ⟨bl, 0, none⟩), .pointer (some ⟨bi, 0, none⟩)] ∧ L' = [bI bi id] ∧ gcell G' bl 0 = some v) := by
  obtain ⟨A, c, rfl, hc1, hc2, -⟩ := hv.slice; refine enterL (N := 6) (T := [(0, _), (1, _)]) Tryz.func105 rfl Tryz.ntmps105 rfl rfl hO ?_; intro a H; refine c_seqR (fun _ hK1 => ?_); refine s_box (cs := [_]) H wn rfl rfl rfl ?_; clear H; intro b2 a w hb2 H; refine s_box (cs := [_]) H wn rfl rfl rfl ?_; clear H; intro b3 a w hb3 H; refine s_assign H wn rfl rfl ?_; clear H; intro a H; refine hK1 _ _ ?_; clear hK1; refine c_seqR (fun _ hK2 => ?_); refine s_makeFunc H wn rfl rfl ?_; clear H; intro a H; refine s_assign H wn rfl rfl ?_; clear H; intro a H; refine hK2 _ _ ?_; clear hK2; refine c_ret ?_; refine (leave1 H Tryz.results105 (.cons (rv_tmp H rfl) .nil) ?_).1; have H := H.pickT (Pl := [_, _]) (Pl' := [_, _]) [1, 0] (by decide) rfl; obtain ⟨Ga, hma, hb2', H⟩ := H.giveBox; exact H.hp.retL ⟨b2, b3, rfl, rfl, by unfold gcell; rw [hb2']; rfl⟩
/-- The first of some errors. -/
def errF (p : Nat → Int) : Nat → Nat → Int
  | _, 0 => 0
  | k, n + 1 => if p k = 0 then errF p (k + 1) n else p k
theorem errF_step {p : Nat → Int} {k m : Nat} (h : k < m) : errF p k (m - k) = if p k = 0 then errF p (k + 1) (m - (k + 1)) else p k := by
  obtain ⟨n, hn⟩ : ∃ n, m - k = n + 1 := ⟨m - k - 1, by omega⟩; rw [hn, errF, show m - (k + 1) = n by omega]
theorem errF_end {p : Nat → Int} {k m : Nat} (h : m ≤ k) : errF p k (m - k) = 0 := by rw [show m - k = 0 by omega]; rfl
theorem errF_zero {p : Nat → Int} : ∀ {n k : Nat}, errF p k n = 0 → ∀ j, k ≤ j → j < k + n → p j = 0
  | 0, k, _, j, h1, h2 => by omega
  | n + 1, k, h, j, h1, h2 => by
    rw [errF] at h; split at h
    · rename_i hp
      by_cases e : j = k
      · rw [e]; exact hp
      exact errF_zero h j (by omega) (by omega)
    rename_i hp; exact absurd h hp
def ownAt (l : List StyleD) (k : Nat) : Int := match l[k]? with | some s => ownS l k s | none => 0
theorem ownAt_in {l : List StyleD} {k : Nat} (h : k < l.length) : ownAt l k = ownS l k l[k] := by unfold ownAt; rw [List.getElem?_eq_getElem h]
def badRef (l : List StyleD) (s : StyleD) : Bool := (decide (s.base ≠ 0) && !isS l s.kind s.base) || (decide (s.next ≠ 0) && (decide (s.kind = 2) || !isS l 1 s.next))
def cyc (l : List StyleD) (s : StyleD) : Bool := decide (l.length < (chL l s.id).length)
/-- The first error of a list of styles. -/
def checkS (l : List StyleD) : Int := if 128 < l.length then 9 else if errF (ownAt l) 0 l.length ≠ 0 then errF (ownAt l) 0 l.length else if l.any (badRef l) = true then 25 else if l.any (cyc l) = true then 16 else 0
theorem own_inc {l : List StyleD} (h : errF (ownAt l) 0 l.length = 0) {k : Nat} (hk : k + 1 < l.length) : l[k].id < l[k + 1].id := by
  have h1 := errF_zero h (k + 1) (Nat.zero_le _) (by omega); rw [ownAt_in hk, ownS, ownE] at h1
  have hp : prevS l (k + 1) = some l[k].id := by rw [prevS, if_neg (by omega), Nat.add_sub_cancel, List.getElem?_eq_getElem (by omega)]; rfl
  rw [hp] at h1
  split at h1
  · cases h1
  split at h1
  · cases h1
  split at h1
  · cases h1
  rename_i _ h2 h3
  have h2' : ¬ l[k].id = l[k + 1].id := fun e => h2 (by rw [e]); have h3' : ¬ l[k + 1].id < l[k].id := fun e => h3 (decide_eq_true e)
  omega
theorem own_mono {l : List StyleD} (h : errF (ownAt l) 0 l.length = 0) : ∀ {k j : Nat} (hk : k < l.length) (hj : j < k), l[j].id < l[k].id
  | k + 1, j, hk, hj => by
    have h1 := own_inc h hk
    by_cases e : j = k
    · subst e; exact h1
    have := own_mono h (k := k) (j := j) (by omega) (by omega)
    omega
theorem own_nodup {l : List StyleD} (h : errF (ownAt l) 0 l.length = 0) (k : Nat) (hk : k < l.length) : l[k].id ∉ (l.take k).map StyleD.id := by
  intro hm; obtain ⟨x, hx1, hx2⟩ := List.mem_map.1 hm; obtain ⟨j, hj, rfl⟩ := List.getElem_of_mem hx1; rw [List.getElem_take] at hx2; rw [List.length_take] at hj; have := own_mono h hk (j := j) (by omega)
  omega
theorem any_next {α : Type} {p : α → Bool} {l : List α} {k : Nat} (hk : k < l.length) (h : (l.take k).any p = false) (hp : p l[k] = false) : (l.take (k + 1)).any p = false := by
  rw [List.take_succ_eq_append_getElem hk, List.any_append, h]; simp [hp]
theorem any_stop {α : Type} {p : α → Bool} {l : List α} {k : Nat} (hk : k < l.length) (hp : p l[k] = true) : l.any p = true := List.any_eq_true.2 ⟨_, List.getElem_mem hk, hp⟩
theorem any_done {α : Type} {p : α → Bool} {l : List α} {k : Nat} (hk : l.length ≤ k) (h : (l.take k).any p = false) : ¬ l.any p = true := by
  rw [List.take_of_length_le hk] at h; rw [h]; decide
set_option maxHeartbeats 1000000 in
theorem check_styles (G : GH) (w0 : World) (hG : Hold G w0) (l : List StyleD) (v : Value) (hv : RepV G (.sl 6 (l.map StyleD.dat)) v) (hN : ∀ s ∈ l, s.name.size ≤ 4611686018427387904) :
    Calls Tryz.prog 43 #[v] w0 (Ret w0 G fun u G' => u = vi (checkS l)) := by
  obtain ⟨A, c, rfl, hc1, hc2, -⟩ := hv.slice; have hml : maxLen = 9223372036854775807 := rfl; rw [List.length_map] at *; refine enter (N := 79) (T := [(0, _)]) (F := fun k => k < w0.heap.size) (L := []) Tryz.func43 rfl Tryz.ntmps43 rfl rfl hG (fun _ h => h) (fun _ h => by cases h) (fun _ h => by cases h) (fun _ h => by cases h) List.Pairwise.nil ?_; intro a H; refine c_seqR (fun _ hK1 => ?_); refine s_box (cs := [_]) H wn rfl rfl rfl ?_; clear H; intro b1 a w hb1 H; refine s_alloc ty22rix H wn rfl ?_; clear H; intro b2 a w hb2 H; refine hK1 _ _ ?_; clear hK1; refine c_seq (fun _ hK2 => ?_); refine c_seqR (fun _ hK3 => ?_); refine s_load ty41chn H wn rfl (H.hp.ocell 1 rfl rfl) rfl ?_; clear H; intro a H; refine s_len un41sty H wn rfl rfl ?_; clear H; intro a H; refine s_cmp H wn rfl rfl rfl rfl ?_; clear H; intro a H; refine hK3 _ _ ?_; clear hK3; refine c_cond H rfl ?_ ?_
  · intro h12
    try have p12 := of_decide_eq_true h12
    refine c_seqR (fun _ hK4 => ?_); refine s_store ty22rix 0 (vs := [_]) _ H wn rfl rfl rfl rfl rfl rfl rfl rfl ?_; clear H; intro w H; dsimp only [List.set, setRow] at H; refine hK4 _ _ ?_; clear hK4; refine c_ret ?_; refine (leave1 H Tryz.results43 (.cons (rv_cell ty22rix H rfl (H.hp.ocell 0 rfl rfl)) .nil) ?_).1
    first
      | exact H.hp.ret (congrArg vi (by rw [checkS, if_pos (by omega)]))
      | exact H.hp.ret (congrArg vi (by rw [if_neg (by simpa using p22)] at heq; rw [checkS, if_neg (by omega), ← heq, if_pos (by simpa using p22)]))
      | exact H.hp.ret (congrArg vi (by rw [checkS, if_neg (by omega), if_neg (by rw [hok]; decide), if_pos hbad]))
      | exact H.hp.ret (congrArg vi (by rw [checkS, if_neg (by omega), if_neg (by rw [hok]; decide), if_neg hbad, if_pos (any_stop hj2 hI)]))
      | exact H.hp.ret (congrArg vi (by rw [checkS, if_neg (by omega), if_neg (by rw [hok]; decide), if_neg hbad, if_neg (any_done (by omega) hnc)]))
  intro h12
  try have p12 := of_decide_eq_false h12
  refine c_skip ?_; refine hK2 _ _ ?_; clear hK2; refine c_seq (fun _ hK5 => ?_); refine c_seqR (fun _ hK6 => ?_); refine s_load ty41chn H wn rfl (H.hp.ocell 1 rfl rfl) rfl ?_; clear H; intro a H; refine s_len un41sty H wn rfl rfl ?_; clear H; intro a H; refine s_move H wn rfl rfl ?_; clear H; intro a H; refine hK6 _ _ ?_; clear hK6; refine c_block ?_; skip; refine c_loopS (ι := Nat × GH) (Tc := [(1, _), (2, _), (14, _)]) (Lc := [(_, _), (_, _)]) (fun (gh : Nat × GH) => [(15, vi gh.1)]) (fun (gh : Nat × GH) => []) (fun (gh : Nat × GH) => gh.2) (fun (gh : Nat × GH) => gh.1 ≤ l.length ∧ errF (ownAt l) gh.1 (l.length - gh.1) = errF (ownAt l) 0 l.length ∧ (∀ b o, G b = some o → gh.2 b = some o)) (fun (gh : Nat × GH) => l.length - gh.1) ((0, G)) (by exact (H).sub ⟨rfl, rfl, rfl, rfl, trivial⟩) ?_ ?_
  · exact ⟨Nat.zero_le _, rfl, fun _ _ h => h⟩
  clear H; intro gh a w hI H; obtain ⟨k, g⟩ := gh; dsimp only at hI H; obtain ⟨hk, heq, hgm⟩ := hI; dsimp only [List.cons_append, List.nil_append, List.append_nil] at H; refine c_seqR (fun _ hK7 => ?_); refine s_cmp H wn rfl rfl rfl rfl ?_; clear H; intro a H; refine hK7 _ _ ?_; clear hK7; refine c_seq (fun _ hK8 => ?_); refine c_cond H rfl ?_ ?_
  · intro h16
    try have p16 := of_decide_eq_true h16
    have hk2 : k < l.length := by omega
    rw [errF_step hk2, ownAt_in hk2] at heq; refine c_skip ?_; refine hK8 _ _ ?_; clear hK8; refine c_seq (fun _ hK9 => ?_); refine c_block ?_; refine c_seqR (fun _ hK10 => ?_); refine s_move H wn rfl rfl ?_; clear H; intro a H; refine s_assign H wn rfl rfl ?_; clear H; intro a H; refine hK10 _ _ ?_; clear hK10; refine c_seqR (fun _ hK11 => ?_); refine s_load ty41chn H wn rfl (H.hp.ocell 1 rfl rfl) rfl ?_; clear H; intro a H; refine s_move H wn rfl rfl ?_; clear H; intro a H; refine s_call en103chk H wn rfl (own_spec _ _ H.hp.ro l k _ (hv.mono hgm) hk2 (hN _ (List.getElem_mem hk2))) rfl ?_; clear H; rintro v20 G20 a w rfl hm20 H; refine s_assign H wn rfl rfl ?_; clear H; intro a H; refine hK11 _ _ ?_; clear hK11; refine c_seqR (fun _ hK12 => ?_); refine s_move H wn rfl rfl ?_; clear H; intro a H; refine s_cmp H wn rfl rfl rfl rfl ?_; clear H; intro a H; refine hK12 _ _ ?_; clear hK12; refine c_cond H rfl ?_ ?_
    · intro h22
      try have p22 := of_decide_eq_true h22
      refine c_seqR (fun _ hK13 => ?_); refine s_move H wn rfl rfl ?_; clear H; intro a H; refine s_store ty22rix 0 (vs := [_]) _ H wn rfl rfl rfl rfl rfl rfl rfl rfl ?_; clear H; intro w H; dsimp only [List.set, setRow] at H; refine hK13 _ _ ?_; clear hK13; refine c_ret ?_; refine (leave1 H Tryz.results43 (.cons (rv_cell ty22rix H rfl (H.hp.ocell 0 rfl rfl)) .nil) ?_).1
      first
        | exact H.hp.ret (congrArg vi (by rw [checkS, if_pos (by omega)]))
        | exact H.hp.ret (congrArg vi (by rw [if_neg (by simpa using p22)] at heq; rw [checkS, if_neg (by omega), ← heq, if_pos (by simpa using p22)]))
        | exact H.hp.ret (congrArg vi (by rw [checkS, if_neg (by omega), if_neg (by rw [hok]; decide), if_pos hbad]))
        | exact H.hp.ret (congrArg vi (by rw [checkS, if_neg (by omega), if_neg (by rw [hok]; decide), if_neg hbad, if_pos (any_stop hj2 hI)]))
        | exact H.hp.ret (congrArg vi (by rw [checkS, if_neg (by omega), if_neg (by rw [hok]; decide), if_neg hbad, if_neg (any_done (by omega) hnc)]))
    intro h22
    try have p22 := of_decide_eq_false h22
    refine c_skip ?_; refine hK9 _ _ ?_; clear hK9; refine c_region ?_; refine s_add _ H wn rfl rfl rfl (by omega) (by omega) rfl ?_; clear H; intro a H; refine s_move H wn rfl rfl ?_; clear H; intro a H; refine wl_nil ?_; refine loop_end ((k + 1, G20)) (by exact (H).sub ⟨rfl, rfl, rfl, rfl, trivial⟩) ?_ ?_
    · (try dsimp only); exact ⟨by omega, by rw [if_pos (by simpa using p22)] at heq; exact heq, fun b o h => hm20 b o (hgm b o h)⟩
    first | omega | (dsimp only; omega)
  intro h16
  try have p16 := of_decide_eq_false h16
  have hok : errF (ownAt l) 0 l.length = 0 := by rw [← heq]; exact errF_end (by omega)
  clear heq; have hvg := hv.mono hgm; refine c_exit ?_; refine hK5 _ _ ?_; clear hK5; refine c_seq (fun _ hK14 => ?_); refine c_seqR (fun _ hK15 => ?_); refine s_load ty41chn H wn rfl (H.hp.ocell 1 rfl rfl) rfl ?_; clear H; intro a H; refine s_len un41sty H wn rfl rfl ?_; clear H; intro a H; refine s_move H wn rfl rfl ?_; clear H; intro a H; refine hK15 _ _ ?_; clear hK15; refine c_block ?_; skip; refine c_loopS (ι := Nat × GH) (Tc := [(1, _), (2, _), (25, _), (26, _)]) (Lc := [(_, _), (_, _)]) (fun (gh : Nat × GH) => [(27, vi gh.1)]) (fun (gh : Nat × GH) => []) (fun (gh : Nat × GH) => gh.2) (fun (gh : Nat × GH) => gh.1 ≤ l.length ∧ (l.take gh.1).any (badRef l) = false ∧ (∀ b o, g b = some o → gh.2 b = some o)) (fun (gh : Nat × GH) => l.length - gh.1) ((0, g)) (by exact (H).sub ⟨rfl, rfl, rfl, rfl, rfl, trivial⟩) ?_ ?_
  · exact ⟨Nat.zero_le _, rfl, fun _ _ h => h⟩
  clear H; intro gh a w hI H; obtain ⟨k, g2⟩ := gh; dsimp only at hI H; obtain ⟨hk3, hno, hgm2⟩ := hI; have hvg2 := hvg.mono hgm2; dsimp only [List.cons_append, List.nil_append, List.append_nil] at H; refine c_seqR (fun _ hK16 => ?_); refine s_cmp H wn rfl rfl rfl rfl ?_; clear H; intro a H; refine hK16 _ _ ?_; clear hK16; refine c_seq (fun _ hK17 => ?_); refine c_cond H rfl ?_ ?_
  · intro h28
    try have p28 := of_decide_eq_true h28
    have hk4 : k < l.length := by omega
    obtain ⟨b, o, pA, pc, rfl, hrow, hp, hrep⟩ := style_at hvg2 hk4; refine c_skip ?_; refine hK17 _ _ ?_; clear hK17; refine c_seq (fun _ hK18 => ?_); refine c_block ?_; refine c_seqR (fun _ hK19 => ?_); refine s_index un41sty ty100sty _ H wn rfl rfl rfl (by first | assumption | omega) rfl ?_; clear H; intro a H; refine s_loada ty100sty (cs := [_, _, _, _, _, _]) H wn rfl rfl (fun j v hj => H.hp.gcell (hrow j v hj)) rfl ?_; clear H; intro a H; refine s_alloc ty100sty H wn rfl ?_; clear H; intro b6 a w hb6 H; refine s_store ty100sty 0 (vs := [_, _, _, _, _, _]) _ H wn rfl rfl rfl rfl rfl rfl rfl rfl ?_; clear H; intro w H; dsimp only [List.set, setRow] at H; refine hK19 _ _ ?_; clear hK19; refine c_seqR (fun _ hK20 => ?_); refine s_field fd100_3chn H wn rfl rfl ?_; clear H; intro a H; refine s_load ty3run H wn rfl (H.hp.ocell 0 rfl rfl) rfl ?_; clear H; intro a H; refine s_cmp H wn rfl rfl rfl rfl ?_; clear H; intro a H; refine s_move H wn rfl rfl ?_; clear H; intro a H; refine s_split H 34 rfl ?_ ?_
    · intro h34
      try have p34 := of_decide_eq_true h34
      refine s_load ty41chn H (wg H rfl rfl h34) rfl (H.hp.ocell 2 rfl rfl) rfl ?_; clear H; intro a H; refine s_field fd100_1sty H (wg H rfl rfl h34) rfl rfl ?_; clear H; intro a H; refine s_load ty3run H (wg H rfl rfl h34) rfl (H.hp.ocell 0 rfl rfl) rfl ?_; clear H; intro a H; refine s_field fd100_3chn H (wg H rfl rfl h34) rfl rfl ?_; clear H; intro a H; refine s_load ty3run H (wg H rfl rfl h34) rfl (H.hp.ocell 0 rfl rfl) rfl ?_; clear H; intro a H; refine s_call en104chk H (wg H rfl rfl h34) rfl (is_spec _ _ H.hp.ro l l[k].kind l[k].base _ hvg2) rfl ?_; clear H; rintro v40 g2 a w rfl hm40 H; replace hgm2 := fun b o (h : g b = some o) => hm40 b o (hgm2 b o h); replace hvg2 := hvg2.mono hm40; refine s_not H (wg H rfl rfl h34) rfl rfl ?_; clear H; intro a H; refine s_pick_t H wn rfl h34 rfl rfl ?_; clear H; intro a H; refine s_move H wn rfl rfl ?_; clear H; intro a H; refine s_split H 43 rfl ?_ ?_
      · intro h43
        try have p43 := of_decide_eq_true h43
        (iterate 4 refine s_skip H rfl rfl h43 rfl ?_; clear H; intro a H); (iterate 10 refine s_skipU H rfl rfl rfl ?_; clear H; intro a H); refine s_skip H rfl rfl h43 rfl ?_; clear H; intro a H; refine s_pick_t H wn rfl h43 rfl rfl ?_; clear H; intro a H; refine hK20 _ _ ?_; clear hK20; refine c_cond_t H rfl rfl ?_; refine c_seq (fun _ hK21 => ?_); have hbad : l.any (badRef l) = true := any_stop hk4 (by unfold badRef; simp_all); refine c_region ?_; refine s_store ty22rix 1 (vs := [_]) _ H wn rfl rfl rfl rfl rfl rfl rfl rfl ?_; clear H; intro w H; dsimp only [List.set, setRow] at H; refine wl_nil ?_; refine hK21 _ _ ?_; clear hK21; refine c_ret ?_; refine (leave1 H Tryz.results43 (.cons (rv_cell ty22rix H rfl (H.hp.ocell 1 rfl rfl)) .nil) ?_).1
        first
          | exact H.hp.ret (congrArg vi (by rw [checkS, if_pos (by omega)]))
          | exact H.hp.ret (congrArg vi (by rw [if_neg (by simpa using p22)] at heq; rw [checkS, if_neg (by omega), ← heq, if_pos (by simpa using p22)]))
          | exact H.hp.ret (congrArg vi (by rw [checkS, if_neg (by omega), if_neg (by rw [hok]; decide), if_pos hbad]))
          | exact H.hp.ret (congrArg vi (by rw [checkS, if_neg (by omega), if_neg (by rw [hok]; decide), if_neg hbad, if_pos (any_stop hj2 hI)]))
          | exact H.hp.ret (congrArg vi (by rw [checkS, if_neg (by omega), if_neg (by rw [hok]; decide), if_neg hbad, if_neg (any_done (by omega) hnc)]))
      intro h43
      try have p43 := of_decide_eq_false h43
      refine s_field fd100_4chk H (wg H rfl rfl h43) rfl rfl ?_; clear H; intro a H; refine s_load ty3run H (wg H rfl rfl h43) rfl (H.hp.ocell 0 rfl rfl) rfl ?_; clear H; intro a H; refine s_cmp H (wg H rfl rfl h43) rfl rfl rfl rfl ?_; clear H; intro a H; refine s_move H (wg H rfl rfl h43) rfl rfl ?_; clear H; intro a H; refine s_split H 47 rfl ?_ ?_
      · intro h47
        try have p47 := of_decide_eq_true h47
        refine s_field fd100_1sty H (wg H rfl rfl h47) rfl rfl ?_; clear H; intro a H; refine s_load ty3run H (wg H rfl rfl h47) rfl (H.hp.ocell 0 rfl rfl) rfl ?_; clear H; intro a H; refine s_cmp H (wg H rfl rfl h47) rfl rfl rfl rfl ?_; clear H; intro a H; refine s_move H (wg H rfl rfl h47) rfl rfl ?_; clear H; intro a H; refine s_split H 51 rfl ?_ ?_
        · intro h51
          try have p51 := of_decide_eq_true h51
          (iterate 5 refine s_skip H rfl rfl h51 rfl ?_; clear H; intro a H); refine s_pick_t H (wg H rfl rfl h47) rfl h51 rfl rfl ?_; clear H; intro a H; refine s_pick_t H (wg H rfl rfl h43) rfl h47 rfl rfl ?_; clear H; intro a H; refine s_pick_f H wn rfl h43 rfl rfl ?_; clear H; intro a H; refine hK20 _ _ ?_; clear hK20; refine c_cond_t H rfl rfl ?_; refine c_seq (fun _ hK22 => ?_); have hbad : l.any (badRef l) = true := any_stop hk4 (by unfold badRef; simp_all); refine c_region ?_; refine s_store ty22rix 1 (vs := [_]) _ H wn rfl rfl rfl rfl rfl rfl rfl rfl ?_; clear H; intro w H; dsimp only [List.set, setRow] at H; refine wl_nil ?_; refine hK22 _ _ ?_; clear hK22; refine c_ret ?_; refine (leave1 H Tryz.results43 (.cons (rv_cell ty22rix H rfl (H.hp.ocell 1 rfl rfl)) .nil) ?_).1
          first
            | exact H.hp.ret (congrArg vi (by rw [checkS, if_pos (by omega)]))
            | exact H.hp.ret (congrArg vi (by rw [if_neg (by simpa using p22)] at heq; rw [checkS, if_neg (by omega), ← heq, if_pos (by simpa using p22)]))
            | exact H.hp.ret (congrArg vi (by rw [checkS, if_neg (by omega), if_neg (by rw [hok]; decide), if_pos hbad]))
            | exact H.hp.ret (congrArg vi (by rw [checkS, if_neg (by omega), if_neg (by rw [hok]; decide), if_neg hbad, if_pos (any_stop hj2 hI)]))
            | exact H.hp.ret (congrArg vi (by rw [checkS, if_neg (by omega), if_neg (by rw [hok]; decide), if_neg hbad, if_neg (any_done (by omega) hnc)]))
        intro h51
        try have p51 := of_decide_eq_false h51
        refine s_load ty41chn H (wg H rfl rfl h51) rfl (H.hp.ocell 2 rfl rfl) rfl ?_; clear H; intro a H; refine s_field fd100_4chk H (wg H rfl rfl h51) rfl rfl ?_; clear H; intro a H; refine s_load ty3run H (wg H rfl rfl h51) rfl (H.hp.ocell 0 rfl rfl) rfl ?_; clear H; intro a H; refine s_call en104chk H (wg H rfl rfl h51) rfl (is_spec _ _ H.hp.ro l 1 l[k].next _ hvg2) rfl ?_; clear H; rintro v55 g2 a w rfl hm55 H; replace hgm2 := fun b o (h : g b = some o) => hm55 b o (hgm2 b o h); replace hvg2 := hvg2.mono hm55; refine s_not H (wg H rfl rfl h51) rfl rfl ?_; clear H; intro a H; refine s_pick_f H (wg H rfl rfl h47) rfl h51 rfl rfl ?_; clear H; intro a H; refine s_pick_t H (wg H rfl rfl h43) rfl h47 rfl rfl ?_; clear H; intro a H; refine s_pick_f H wn rfl h43 rfl rfl ?_; clear H; intro a H; refine hK20 _ _ ?_; clear hK20; refine c_cond H rfl ?_ ?_
        · intro h59
          try have p59 := of_decide_eq_true h59
          refine c_seq (fun _ hK23 => ?_); have hbad : l.any (badRef l) = true := any_stop hk4 (by unfold badRef; simp_all); refine c_region ?_; refine s_store ty22rix 1 (vs := [_]) _ H wn rfl rfl rfl rfl rfl rfl rfl rfl ?_; clear H; intro w H; dsimp only [List.set, setRow] at H; refine wl_nil ?_; refine hK23 _ _ ?_; clear hK23; refine c_ret ?_; refine (leave1 H Tryz.results43 (.cons (rv_cell ty22rix H rfl (H.hp.ocell 1 rfl rfl)) .nil) ?_).1
          first
            | exact H.hp.ret (congrArg vi (by rw [checkS, if_pos (by omega)]))
            | exact H.hp.ret (congrArg vi (by rw [if_neg (by simpa using p22)] at heq; rw [checkS, if_neg (by omega), ← heq, if_pos (by simpa using p22)]))
            | exact H.hp.ret (congrArg vi (by rw [checkS, if_neg (by omega), if_neg (by rw [hok]; decide), if_pos hbad]))
            | exact H.hp.ret (congrArg vi (by rw [checkS, if_neg (by omega), if_neg (by rw [hok]; decide), if_neg hbad, if_pos (any_stop hj2 hI)]))
            | exact H.hp.ret (congrArg vi (by rw [checkS, if_neg (by omega), if_neg (by rw [hok]; decide), if_neg hbad, if_neg (any_done (by omega) hnc)]))
        intro h59
        try have p59 := of_decide_eq_false h59
        refine c_skip ?_; refine hK18 _ _ ?_; clear hK18; refine c_region ?_; refine s_add _ H wn rfl rfl rfl (by omega) (by omega) rfl ?_; clear H; intro a H; refine s_move H wn rfl rfl ?_; clear H; intro a H; refine wl_nil ?_; refine loop_end ((k + 1, g2)) (by exact (H.pickT (Pl := [_, _, _]) (Pl' := [_, _]) [1, 2] (by decide) rfl).sub ⟨rfl, rfl, rfl, rfl, rfl, trivial⟩) ?_ ?_
        · (try dsimp only); exact ⟨by omega, any_next hk4 hno (by unfold badRef; simp_all), hgm2⟩
        first | omega | (dsimp only; omega)
      intro h47
      try have p47 := of_decide_eq_false h47
      (iterate 4 refine s_skip H rfl rfl h47 rfl ?_; clear H; intro a H); (iterate 5 refine s_skipU H rfl rfl rfl ?_; clear H; intro a H); refine s_skip H rfl rfl h47 rfl ?_; clear H; intro a H; refine s_pick_f H (wg H rfl rfl h43) rfl h47 rfl rfl ?_; clear H; intro a H; refine s_pick_f H wn rfl h43 rfl rfl ?_; clear H; intro a H; refine hK20 _ _ ?_; clear hK20; refine c_cond_f H rfl rfl ?_; refine c_skip ?_; refine hK18 _ _ ?_; clear hK18; refine c_region ?_; refine s_add _ H wn rfl rfl rfl (by omega) (by omega) rfl ?_; clear H; intro a H; refine s_move H wn rfl rfl ?_; clear H; intro a H; refine wl_nil ?_; refine loop_end ((k + 1, g2)) (by exact (H.pickT (Pl := [_, _, _]) (Pl' := [_, _]) [1, 2] (by decide) rfl).sub ⟨rfl, rfl, rfl, rfl, rfl, trivial⟩) ?_ ?_
      · (try dsimp only); exact ⟨by omega, any_next hk4 hno (by unfold badRef; simp_all), hgm2⟩
      first | omega | (dsimp only; omega)
    intro h34
    try have p34 := of_decide_eq_false h34
    (iterate 7 refine s_skip H rfl rfl h34 rfl ?_; clear H; intro a H); refine s_pick_f H wn rfl h34 rfl rfl ?_; clear H; intro a H; refine s_move H wn rfl rfl ?_; clear H; intro a H; refine s_field fd100_4chk H (wg H rfl rfl rfl) rfl rfl ?_; clear H; intro a H; refine s_load ty3run H (wg H rfl rfl rfl) rfl (H.hp.ocell 0 rfl rfl) rfl ?_; clear H; intro a H; refine s_cmp H (wg H rfl rfl rfl) rfl rfl rfl rfl ?_; clear H; intro a H; refine s_move H (wg H rfl rfl rfl) rfl rfl ?_; clear H; intro a H; refine s_split H 47 rfl ?_ ?_
    · intro h47
      try have p47 := of_decide_eq_true h47
      refine s_field fd100_1sty H (wg H rfl rfl h47) rfl rfl ?_; clear H; intro a H; refine s_load ty3run H (wg H rfl rfl h47) rfl (H.hp.ocell 0 rfl rfl) rfl ?_; clear H; intro a H; refine s_cmp H (wg H rfl rfl h47) rfl rfl rfl rfl ?_; clear H; intro a H; refine s_move H (wg H rfl rfl h47) rfl rfl ?_; clear H; intro a H; refine s_split H 51 rfl ?_ ?_
      · intro h51
        try have p51 := of_decide_eq_true h51
        (iterate 5 refine s_skip H rfl rfl h51 rfl ?_; clear H; intro a H); refine s_pick_t H (wg H rfl rfl h47) rfl h51 rfl rfl ?_; clear H; intro a H; refine s_pick_t H (wg H rfl rfl rfl) rfl h47 rfl rfl ?_; clear H; intro a H; refine s_pick_f H wn rfl rfl rfl rfl ?_; clear H; intro a H; refine hK20 _ _ ?_; clear hK20; refine c_cond_t H rfl rfl ?_; refine c_seq (fun _ hK24 => ?_); have hbad : l.any (badRef l) = true := any_stop hk4 (by unfold badRef; simp_all); refine c_region ?_; refine s_store ty22rix 1 (vs := [_]) _ H wn rfl rfl rfl rfl rfl rfl rfl rfl ?_; clear H; intro w H; dsimp only [List.set, setRow] at H; refine wl_nil ?_; refine hK24 _ _ ?_; clear hK24; refine c_ret ?_; refine (leave1 H Tryz.results43 (.cons (rv_cell ty22rix H rfl (H.hp.ocell 1 rfl rfl)) .nil) ?_).1
        first
          | exact H.hp.ret (congrArg vi (by rw [checkS, if_pos (by omega)]))
          | exact H.hp.ret (congrArg vi (by rw [if_neg (by simpa using p22)] at heq; rw [checkS, if_neg (by omega), ← heq, if_pos (by simpa using p22)]))
          | exact H.hp.ret (congrArg vi (by rw [checkS, if_neg (by omega), if_neg (by rw [hok]; decide), if_pos hbad]))
          | exact H.hp.ret (congrArg vi (by rw [checkS, if_neg (by omega), if_neg (by rw [hok]; decide), if_neg hbad, if_pos (any_stop hj2 hI)]))
          | exact H.hp.ret (congrArg vi (by rw [checkS, if_neg (by omega), if_neg (by rw [hok]; decide), if_neg hbad, if_neg (any_done (by omega) hnc)]))
      intro h51
      try have p51 := of_decide_eq_false h51
      refine s_load ty41chn H (wg H rfl rfl h51) rfl (H.hp.ocell 2 rfl rfl) rfl ?_; clear H; intro a H; refine s_field fd100_4chk H (wg H rfl rfl h51) rfl rfl ?_; clear H; intro a H; refine s_load ty3run H (wg H rfl rfl h51) rfl (H.hp.ocell 0 rfl rfl) rfl ?_; clear H; intro a H; refine s_call en104chk H (wg H rfl rfl h51) rfl (is_spec _ _ H.hp.ro l 1 l[k].next _ hvg2) rfl ?_; clear H; rintro v55 g2 a w rfl hm55 H; replace hgm2 := fun b o (h : g b = some o) => hm55 b o (hgm2 b o h); replace hvg2 := hvg2.mono hm55; refine s_not H (wg H rfl rfl h51) rfl rfl ?_; clear H; intro a H; refine s_pick_f H (wg H rfl rfl h47) rfl h51 rfl rfl ?_; clear H; intro a H; refine s_pick_t H (wg H rfl rfl rfl) rfl h47 rfl rfl ?_; clear H; intro a H; refine s_pick_f H wn rfl rfl rfl rfl ?_; clear H; intro a H; refine hK20 _ _ ?_; clear hK20; refine c_cond H rfl ?_ ?_
      · intro h59
        try have p59 := of_decide_eq_true h59
        refine c_seq (fun _ hK25 => ?_); have hbad : l.any (badRef l) = true := any_stop hk4 (by unfold badRef; simp_all); refine c_region ?_; refine s_store ty22rix 1 (vs := [_]) _ H wn rfl rfl rfl rfl rfl rfl rfl rfl ?_; clear H; intro w H; dsimp only [List.set, setRow] at H; refine wl_nil ?_; refine hK25 _ _ ?_; clear hK25; refine c_ret ?_; refine (leave1 H Tryz.results43 (.cons (rv_cell ty22rix H rfl (H.hp.ocell 1 rfl rfl)) .nil) ?_).1
        first
          | exact H.hp.ret (congrArg vi (by rw [checkS, if_pos (by omega)]))
          | exact H.hp.ret (congrArg vi (by rw [if_neg (by simpa using p22)] at heq; rw [checkS, if_neg (by omega), ← heq, if_pos (by simpa using p22)]))
          | exact H.hp.ret (congrArg vi (by rw [checkS, if_neg (by omega), if_neg (by rw [hok]; decide), if_pos hbad]))
          | exact H.hp.ret (congrArg vi (by rw [checkS, if_neg (by omega), if_neg (by rw [hok]; decide), if_neg hbad, if_pos (any_stop hj2 hI)]))
          | exact H.hp.ret (congrArg vi (by rw [checkS, if_neg (by omega), if_neg (by rw [hok]; decide), if_neg hbad, if_neg (any_done (by omega) hnc)]))
      intro h59
      try have p59 := of_decide_eq_false h59
      refine c_skip ?_; refine hK18 _ _ ?_; clear hK18; refine c_region ?_; refine s_add _ H wn rfl rfl rfl (by omega) (by omega) rfl ?_; clear H; intro a H; refine s_move H wn rfl rfl ?_; clear H; intro a H; refine wl_nil ?_; refine loop_end ((k + 1, g2)) (by exact (H.pickT (Pl := [_, _, _]) (Pl' := [_, _]) [1, 2] (by decide) rfl).sub ⟨rfl, rfl, rfl, rfl, rfl, trivial⟩) ?_ ?_
      · (try dsimp only); exact ⟨by omega, any_next hk4 hno (by unfold badRef; simp_all), hgm2⟩
      first | omega | (dsimp only; omega)
    intro h47
    try have p47 := of_decide_eq_false h47
    (iterate 4 refine s_skip H rfl rfl h47 rfl ?_; clear H; intro a H); (iterate 5 refine s_skipU H rfl rfl rfl ?_; clear H; intro a H); refine s_skip H rfl rfl h47 rfl ?_; clear H; intro a H; refine s_pick_f H (wg H rfl rfl rfl) rfl h47 rfl rfl ?_; clear H; intro a H; refine s_pick_f H wn rfl rfl rfl rfl ?_; clear H; intro a H; refine hK20 _ _ ?_; clear hK20; refine c_cond_f H rfl rfl ?_; refine c_skip ?_; refine hK18 _ _ ?_; clear hK18; refine c_region ?_; refine s_add _ H wn rfl rfl rfl (by omega) (by omega) rfl ?_; clear H; intro a H; refine s_move H wn rfl rfl ?_; clear H; intro a H; refine wl_nil ?_; refine loop_end ((k + 1, g2)) (by exact (H.pickT (Pl := [_, _, _]) (Pl' := [_, _]) [1, 2] (by decide) rfl).sub ⟨rfl, rfl, rfl, rfl, rfl, trivial⟩) ?_ ?_
    · (try dsimp only); exact ⟨by omega, any_next hk4 hno (by unfold badRef; simp_all), hgm2⟩
    first | omega | (dsimp only; omega)
  intro h28
  try have p28 := of_decide_eq_false h28
  have hbad := any_done (by omega) hno; refine c_exit ?_; refine hK14 _ _ ?_; clear hK14; refine c_seq (fun _ hK26 => ?_); refine c_seqR (fun _ hK27 => ?_); refine s_load ty41chn H wn rfl (H.hp.ocell 1 rfl rfl) rfl ?_; clear H; intro a H; refine s_len un41sty H wn rfl rfl ?_; clear H; intro a H; refine s_move H wn rfl rfl ?_; clear H; intro a H; refine hK27 _ _ ?_; clear hK27; refine c_block ?_; skip; refine c_loopD (ι := Nat × GH × List Nat) (Tc := [(1, _), (2, _), (61, _), (62, _)]) (Lc := [(_, _), (_, _)]) (fun (gh : Nat × GH × List Nat) => mkD gh.2.2) (fun (gh : Nat × GH × List Nat) => [(63, vi gh.1)]) (fun (gh : Nat × GH × List Nat) => [] ++ (mkL gh.2.2 ++ [])) (fun (gh : Nat × GH × List Nat) => gh.2.1) (fun (gh : Nat × GH × List Nat) => gh.1 ≤ l.length ∧ (l.take gh.1).any (cyc l) = false ∧ (∀ b o, g2 b = some o → gh.2.1 b = some o)) (fun (gh : Nat × GH × List Nat) => l.length - gh.1) ((0, g2, [])) (by exact (H).sub ⟨rfl, rfl, rfl, rfl, rfl, trivial⟩) ?_ ?_
  · exact ⟨Nat.zero_le _, rfl, fun _ _ h => h⟩
  clear H; intro gh a w hI H; obtain ⟨j, g3, ds⟩ := gh; dsimp only at hI H; obtain ⟨hj, hnc, hgm3⟩ := hI; have hvg3 := hvg2.mono hgm3; dsimp only [List.cons_append, List.nil_append, List.append_nil] at H; refine c_seqR (fun _ hK28 => ?_); refine s_cmp H wn rfl rfl rfl rfl ?_; clear H; intro a H; refine hK28 _ _ ?_; clear hK28; refine c_seq (fun _ hK29 => ?_); refine c_cond H rfl ?_ ?_
  · intro h64
    try have p64 := of_decide_eq_true h64
    have hj2 : j < l.length := by omega
    obtain ⟨b, o, pA, pc, rfl, hrow, hp, hrep⟩ := style_at hvg3 hj2; refine c_skip ?_; refine hK29 _ _ ?_; clear hK29; refine c_seq (fun _ hK30 => ?_); refine c_block ?_; refine c_seqR (fun _ hK31 => ?_); refine s_index un41sty ty100sty _ H wn rfl rfl rfl (by first | assumption | omega) rfl ?_; clear H; intro a H; refine s_loada ty100sty (cs := [_, _, _, _, _, _]) H wn rfl rfl (fun j v hj => H.hp.gcell (hrow j v hj)) rfl ?_; clear H; intro a H; refine s_alloc ty100sty H wn rfl ?_; clear H; intro b8 a w hb8 H; refine s_store ty100sty 0 (vs := [_, _, _, _, _, _]) _ H wn rfl rfl rfl rfl rfl rfl rfl rfl ?_; clear H; intro w H; dsimp only [List.set, setRow] at H; refine hK31 _ _ ?_; clear hK31; refine c_seqR (fun _ hK32 => ?_); refine s_alloc ty3run H wn rfl ?_; clear H; intro b9 a w hb9 H; refine s_store ty3run 0 (vs := [_]) _ H wn rfl rfl rfl rfl rfl rfl rfl rfl ?_; clear H; intro w H; dsimp only [List.set, setRow] at H; refine hK32 _ _ ?_; clear hK32; refine c_seqR (fun _ hK33 => ?_); refine s_load ty41chn H wn rfl (H.hp.ocell 3 rfl rfl) rfl ?_; clear H; intro a H; refine s_field fd100_0sty H wn rfl rfl ?_; clear H; intro a H; refine s_load ty3run H wn rfl (H.hp.ocell 1 rfl rfl) rfl ?_; clear H; intro a H; refine s_callL en105chk (Li := [_, _, _, _] ++ mkL ds) (L := []) (St.un (A := [_, _, _, _]) H) wn rfl (chain_spec (Hp.owns (Li := [_, _, _, _] ++ mkL ds) (St.un (A := [_, _, _, _]) H).hp) l l[j].id _ hvg3) rfl ?_; clear H; rintro v70 g4 L70 a w ⟨bl, bi, rfl, rfl, hbl⟩ hm70 H; have H := (St.nilT (A := [_, _, _, _, _]) (B := mkL ds) (H.perm List.perm_append_comm)); dsimp only [List.cons_append, List.nil_append] at H; have hit := chain1_iter (l := l) (id := l[j].id) (bi := bi) hbl (hvg3.mono hm70) (own_nodup hok); refine hK33 _ _ ?_; clear hK33; refine c_block ?_; skip; refine c_rangeJI (B := [(_, _)]) (ι := Unit) (κ := Int) (Lc := [(_, _), (_, _)]) (fun (k : Nat) (gh : Unit) => [(b9, .cells #[vi k] 3 (0, 0)), (b2, .cells #[vi 0] 22 (0, 0))]) (fun (k : Nat) (gh : Unit) => (mkL ds ++ [])) (fun (k : Nat) (gh : Unit) (g : GH) => k ≤ l.length) (fun (gx : Int) => Code.ret) (fun (gx : Int) => [(b9, .cells #[vi gx] 3 (0, 0)), (b2, .cells #[vi 16] 22 (0, 0))]) (fun (gx : Int) => (mkL ds ++ [])) (fun (gx : Int) (g : GH) => cyc l l[j] = true) (()) (by exact H.pickT (Pl := [_, _, _, _, _]) (Pl' := [_, _, _, _, _]) [0, 2, 4, 1, 3] (by decide) rfl) rfl en181chn (hit) (fun _ _ h => h) (fun e i g h => absurd (of_decide_eq_false e) (by rw [List.length_map] at h; omega)) rfl (fun k args g h => by obtain ⟨_, _, rfl, _⟩ := st_at h; rfl) (fun _ _ _ _ _ h => h) (fun _ _ _ _ h => h) (Nat.zero_le _) ?_ ?_ ?_
    · clear H; intro l21 rdy bsy bk k args gh G21 w21 F21 B21 a hk21 hm21 hI hbeg21 hnext21 hstop21 H; obtain ⟨hk21, cs21, rfl, hrep21⟩ := st_at hk21; dsimp only [asg, List.cons_append, List.nil_append] at H; refine c_skip ?_; refine hbeg21 _ _ _ _ _ _ (by exact H) ?_; clear H; intro w H; refine c_block ?_; refine c_seqR (fun _ hK34 => ?_); refine s_load ty3run H wn rfl (H.hp.ocell 3 rfl rfl) rfl ?_; clear H; intro a H; refine s_add _ H wn rfl rfl rfl (by omega) (by omega) rfl ?_; clear H; intro a H; refine s_store ty3run 3 (vs := [_]) _ H wn rfl rfl rfl rfl rfl rfl rfl rfl ?_; clear H; intro w H; dsimp only [List.set, setRow] at H; refine hK34 _ _ ?_; clear hK34; refine c_seqR (fun _ hK35 => ?_); refine s_load ty3run H wn rfl (H.hp.ocell 3 rfl rfl) rfl ?_; clear H; intro a H; refine s_load ty41chn H wn rfl (H.hp.ocell 2 rfl rfl) rfl ?_; clear H; intro a H; refine s_len un41sty H wn rfl rfl ?_; clear H; intro a H; refine s_cmp H wn rfl rfl rfl rfl ?_; clear H; intro a H; refine hK35 _ _ ?_; clear hK35; refine c_cond H rfl ?_ ?_
      · intro h77
        try have p77 := of_decide_eq_true h77
        refine c_seqR (fun _ hK36 => ?_); refine s_store ty22rix 4 (vs := [_]) _ H wn rfl rfl rfl rfl rfl rfl rfl rfl ?_; clear H; intro w H; dsimp only [List.set, setRow] at H; refine hK36 _ _ ?_; clear hK36; refine c_ret ?_; refine (hstop21 ((k : Int) + 1) _ _ _ _ _ (by exact H) ?_).1 rfl; exact decide_eq_true (by omega)
      intro h77
      try have p77 := of_decide_eq_false h77
      refine c_skip ?_; refine hnext21 (()) _ _ _ _ _ (by exact H) ?_
      omega
    · clear H; intro Dk21 gh Gd21 a w hm21 hI H; dsimp only [List.cons_append, List.nil_append, List.append_nil] at H; refine hK30 _ _ ?_; clear hK30; refine c_region ?_; refine s_add _ H wn rfl rfl rfl (by omega) (by omega) rfl ?_; clear H; intro a H; refine s_move H wn rfl rfl ?_; clear H; intro a H; refine wl_nil ?_; refine loopD_end ((j + 1, Gd21, Dk21 :: ds)) (by exact (H.pickT (Pl := [_, _, _, _, _]) (Pl' := [_, _, _]) [4, 2, 0] (by decide) rfl).sub ⟨rfl, rfl, rfl, rfl, rfl, trivial⟩) ?_ ?_
      · (try dsimp only); exact ⟨by omega, any_next hj2 hnc (decide_eq_false (by rw [List.length_map] at hI; omega)), fun b o h => hm21 b o (hm70 b o (hgm3 b o h))⟩
      first | omega | (dsimp only; omega)
    clear H; intro Dk21 gx Gd21 a w hm21 hI H; obtain ⟨x, hgh⟩ : ∃ x, x = gx := ⟨_, rfl⟩; subst hgh; dsimp only [List.cons_append, List.nil_append, List.append_nil] at H; refine c_ret ?_; refine (leaveM H 0 rfl ?_).1; clear H; intro a w H; dsimp only [List.eraseIdx_cons_succ, List.eraseIdx_cons_zero] at H; refine (leaveMs (Lh := [_, _, _, _]) _ H ?_).1; clear H; intro a w H; dsimp only [List.cons_append, List.nil_append] at H; refine (leave1 H Tryz.results43 (.cons (rv_cell ty22rix H rfl (H.hp.ocell 3 rfl rfl)) .nil) ?_).1
    first
      | exact H.hp.ret (congrArg vi (by rw [checkS, if_pos (by omega)]))
      | exact H.hp.ret (congrArg vi (by rw [if_neg (by simpa using p22)] at heq; rw [checkS, if_neg (by omega), ← heq, if_pos (by simpa using p22)]))
      | exact H.hp.ret (congrArg vi (by rw [checkS, if_neg (by omega), if_neg (by rw [hok]; decide), if_pos hbad]))
      | exact H.hp.ret (congrArg vi (by rw [checkS, if_neg (by omega), if_neg (by rw [hok]; decide), if_neg hbad, if_pos (any_stop hj2 hI)]))
      | exact H.hp.ret (congrArg vi (by rw [checkS, if_neg (by omega), if_neg (by rw [hok]; decide), if_neg hbad, if_neg (any_done (by omega) hnc)]))
  intro h64
  try have p64 := of_decide_eq_false h64
  refine c_exit ?_; refine hK26 _ _ ?_; clear hK26; refine c_seqR (fun _ hK37 => ?_); refine s_store ty22rix 0 (vs := [_]) _ H wn rfl rfl rfl rfl rfl rfl rfl rfl ?_; clear H; intro w H; dsimp only [List.set, setRow] at H; refine hK37 _ _ ?_; clear hK37; refine c_ret ?_; refine (leaveMs (Lh := [_, _]) _ H ?_).1; clear H; intro a w H; dsimp only [List.cons_append, List.nil_append] at H; refine (leave1 H Tryz.results43 (.cons (rv_cell ty22rix H rfl (H.hp.ocell 0 rfl rfl)) .nil) ?_).1
  first
    | exact H.hp.ret (congrArg vi (by rw [checkS, if_pos (by omega)]))
    | exact H.hp.ret (congrArg vi (by rw [if_neg (by simpa using p22)] at heq; rw [checkS, if_neg (by omega), ← heq, if_pos (by simpa using p22)]))
    | exact H.hp.ret (congrArg vi (by rw [checkS, if_neg (by omega), if_neg (by rw [hok]; decide), if_pos hbad]))
    | exact H.hp.ret (congrArg vi (by rw [checkS, if_neg (by omega), if_neg (by rw [hok]; decide), if_neg hbad, if_pos (any_stop hj2 hI)]))
    | exact H.hp.ret (congrArg vi (by rw [checkS, if_neg (by omega), if_neg (by rw [hok]; decide), if_neg hbad, if_neg (any_done (by omega) hnc)]))
end
end Go.Proofs.YtlnhhlighgaapaaGreat
