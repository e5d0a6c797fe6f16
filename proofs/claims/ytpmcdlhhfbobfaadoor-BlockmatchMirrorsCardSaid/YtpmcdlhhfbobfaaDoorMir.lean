/-
  Package obeluslaw31: BlockmatchMirrors.
-/
import Derived.Test.YtpmcdlhhfbobfaaDoorOpt
namespace Go.Proofs.YtpmcdlhhfbobfaaDoor
open Go.RowKit
theorem un3mir : Tryd.prog.underlying 3 = some (.int .i64) := by kernel_rfl
theorem un5mir : Tryd.prog.underlying 5 = some (.int .u8) := by kernel_rfl
theorem en9mir : ∀ args w, (callFunc 9 args).run Tryd.prog w = .ok (.enter 9 args) w := enters Tryd.func9 rfl (by kernel_rfl)
theorem un32mir : Tryd.prog.underlying 32 = some (.slice 3) := by kernel_rfl
theorem ty3mir : Ty Tryd.prog 3 1 8 [.int .i64 0] false := ⟨by kernel_rfl, by kernel_rfl⟩
theorem un23mir : Tryd.prog.underlying 23 = some (.slice 32) := by kernel_rfl
theorem ty32mir : Ty Tryd.prog 32 1 24 [.slice none 0 0] false := ⟨by kernel_rfl, by kernel_rfl⟩
theorem en10mir : ∀ args w, (callFunc 10 args).run Tryd.prog w = .ok (.enter 10 args) w := enters Tryd.func10 rfl (by kernel_rfl)
theorem en11mir : ∀ args w, (callFunc 11 args).run Tryd.prog w = .ok (.enter 11 args) w := enters Tryd.func11 rfl (by kernel_rfl)
theorem en12mir : ∀ args w, (callFunc 12 args).run Tryd.prog w = .ok (.enter 12 args) w := enters Tryd.func12 rfl (by kernel_rfl)
/-! ## Chains of matches -/
structure Ch (s : Nat → Nat → Int) (n m i k : Nat) (c : List (Nat × Nat)) : Prop where
  ok : ∀ p ∈ c, i ≤ p.1 ∧ p.1 < n ∧ k ≤ p.2 ∧ p.2 < m ∧ 400 ≤ s p.1 p.2
  inc : c.Pairwise (fun p q => p.1 < q.1 ∧ p.2 < q.2)
def wsum (s : Nat → Nat → Int) : List (Nat × Nat) → Int
  | [] => 0
  | p :: c => s p.1 p.2 + wsum s c
theorem wsum_append (s : Nat → Nat → Int) (c d : List (Nat × Nat)) : wsum s (c ++ d) = wsum s c + wsum s d := by
  induction c with
  | nil => simp [wsum]
  | cons p c ih => simp only [List.cons_append, wsum, ih]; omega
theorem wsum_rev (s : Nat → Nat → Int) (c : List (Nat × Nat)) : wsum s c.reverse = wsum s c := by
  induction c with
  | nil => rfl
  | cons p c ih => rw [List.reverse_cons, wsum_append, ih]; simp only [wsum]; omega
theorem wsum_map {s t : Nat → Nat → Int} {f : Nat × Nat → Nat × Nat} : ∀ (c : List (Nat × Nat)), (∀ p ∈ c, t (f p).1 (f p).2 = s p.1 p.2) → wsum t (c.map f) = wsum s c
  | [], _ => rfl
  | p :: c, h => by
    rw [List.map_cons, wsum, wsum, h p (List.mem_cons_self ..), wsum_map c fun q hq => h q (List.mem_cons_of_mem _ hq)]
section
variable {s : Nat → Nat → Int} {n m : Nat}
theorem tot_down (hs : ∀ i k, i < n → k < m → s i k ≤ 1000) (i k : Nat) : tot s n m (i + 1) k ≤ tot s n m i k ∧ tot s n m i (k + 1) ≤ tot s n m i k := by
  by_cases h : i < n ∧ k < m
  · rw [tot_in h.1 h.2]; omega
  have h0 := tot_ge0 hs i k; rw [tot_out (show ¬ (i + 1 < n ∧ k < m) by omega), tot_out (show ¬ (i < n ∧ k + 1 < m) by omega)]
  omega
theorem tot_mono1 (hs : ∀ i k, i < n → k < m → s i k ≤ 1000) (k i : Nat) : ∀ d, tot s n m (i + d) k ≤ tot s n m i k
  | 0 => Int.le_refl _
  | d + 1 => Int.le_trans (tot_down hs (i + d) k).1 (tot_mono1 hs k i d)
theorem tot_mono2 (hs : ∀ i k, i < n → k < m → s i k ≤ 1000) (i k : Nat) : ∀ d, tot s n m i (k + d) ≤ tot s n m i k
  | 0 => Int.le_refl _
  | d + 1 => Int.le_trans (tot_down hs i (k + d)).2 (tot_mono2 hs i k d)
/-- No chain is worth more than the total. -/
theorem tot_chain (hs : ∀ i k, i < n → k < m → s i k ≤ 1000) : ∀ (c : List (Nat × Nat)) (i k : Nat), Ch s n m i k c → wsum s c ≤ tot s n m i k
  | [], i, k, _ => tot_ge0 hs i k
  | p :: c, i, k, h => by
    have hp := h.ok p (List.mem_cons_self ..); have hi := List.pairwise_cons.1 h.inc
    have ih := tot_chain hs c (p.1 + 1) (p.2 + 1) ⟨fun q hq => by
      have h1 := h.ok q (List.mem_cons_of_mem _ hq); have h2 := hi.1 q hq
      omega, hi.2⟩
    have h3 : s p.1 p.2 + tot s n m (p.1 + 1) (p.2 + 1) ≤ tot s n m p.1 p.2 := by
      rw [tot_in hp.2.1 hp.2.2.2.1, if_neg (by omega)]; omega
    have h4 := tot_mono1 hs p.2 i (p.1 - i); have h5 := tot_mono2 hs i k (p.2 - k); rw [show i + (p.1 - i) = p.1 by omega] at h4; rw [show k + (p.2 - k) = p.2 by omega] at h5; rw [wsum]; omega
theorem sum_pairs : ∀ (M : List MatchD), (∀ x ∈ M, MOk s n m 0 0 x) → sumM M = wsum s (M.map fun x => (x.a.toNat, x.b.toNat))
  | [], _ => rfl
  | x :: M, h => by
    obtain ⟨a, b, rfl, -⟩ := h x (List.mem_cons_self ..); rw [List.map_cons, sumM, wsum, sum_pairs M fun y hy => h y (List.mem_cons_of_mem _ hy)]
    simp
/-- A chain is worth the total. -/
theorem tot_reach (hs : ∀ i k, i < n → k < m → s i k ≤ 1000) : ∃ c, Ch s n m 0 0 c ∧ wsum s c = tot s n m 0 0 := by
  have hmo := bestS_ok hs _ 0 0 (Nat.le_refl _); refine ⟨(bestS s n m 0 0).map fun x => (x.a.toNat, x.b.toNat), ⟨fun p hp => ?_, ?_⟩, ?_⟩
  · obtain ⟨x, hx, rfl⟩ := List.mem_map.1 hp; obtain ⟨a, b, rfl, h1, h2, h3, h4, h5⟩ := hmo.1 x hx
    simp [h2, h4, h5]
  · rw [List.pairwise_map]; refine List.Pairwise.imp_of_mem (fun {x y} hx hy h => ?_) hmo.2; obtain ⟨a, b, rfl, -⟩ := hmo.1 x hx; obtain ⟨a', b', rfl, -⟩ := hmo.1 y hy; dsimp only at h ⊢
    omega
  rw [← sum_pairs _ hmo.1, bestS_sum hs _ 0 0 (Nat.le_refl _)]
end
theorem tot_swap_le {s : Nat → Nat → Int} {n m : Nat} (hs : ∀ i k, i < n → k < m → s i k ≤ 1000) : tot s n m 0 0 ≤ tot (fun a b => s b a) m n 0 0 := by
  obtain ⟨c, hc, e⟩ := tot_reach hs; rw [← e, ← wsum_map (t := fun a b => s b a) (f := fun p => (p.2, p.1)) c (fun p _ => rfl)]; refine tot_chain (fun i k hi hk => hs k i hk hi) _ 0 0 ⟨fun p hp => ?_, ?_⟩
  · obtain ⟨q, hq, rfl⟩ := List.mem_map.1 hp; have := hc.ok q hq; dsimp only; omega
  rw [List.pairwise_map]; exact hc.inc.imp fun h => ⟨h.2, h.1⟩
theorem tot_swap {s : Nat → Nat → Int} {n m : Nat} (hs : ∀ i k, i < n → k < m → s i k ≤ 1000) : tot (fun a b => s b a) m n 0 0 = tot s n m 0 0 :=
  Int.le_antisymm (tot_swap_le (s := fun a b => s b a) (n := m) (m := n) (fun i k hi hk => hs k i hk hi)) (tot_swap_le hs)
theorem tot_congr {s t : Nat → Nat → Int} {n m : Nat} (h : ∀ i k, i < n → k < m → s i k = t i k) : ∀ (q i k : Nat), (n - i) + (m - k) ≤ q → tot s n m i k = tot t n m i k
  | 0, i, k, hq => by rw [tot_out (by omega), tot_out (by omega)]
  | q + 1, i, k, hq => by
    by_cases hik : i < n ∧ k < m
    · rw [tot_in hik.1 hik.2, tot_in hik.1 hik.2, tot_congr h q (i + 1) k (by omega), tot_congr h q i (k + 1) (by omega), tot_congr h q (i + 1) (k + 1) (by omega), h i k hik.1 hik.2]
    rw [tot_out hik, tot_out hik]
theorem tot_rev_le {s : Nat → Nat → Int} {n m : Nat} (hs : ∀ i k, i < n → k < m → s i k ≤ 1000) : tot s n m 0 0 ≤ tot (fun a b => s (n - 1 - a) (m - 1 - b)) n m 0 0 := by
  obtain ⟨c, hc, e⟩ := tot_reach hs
  have hm := wsum_map (s := s) (t := fun a b => s (n - 1 - a) (m - 1 - b)) (f := fun p => (n - 1 - p.1, m - 1 - p.2)) c (fun p hp => by
    have := hc.ok p hp; dsimp only
    rw [show n - 1 - (n - 1 - p.1) = p.1 by omega, show m - 1 - (m - 1 - p.2) = p.2 by omega])
  rw [← e, ← hm, ← wsum_rev]; refine tot_chain (fun i k hi hk => hs _ _ (by omega) (by omega)) _ 0 0 ⟨fun p hp => ?_, ?_⟩
  · obtain ⟨q, hq, rfl⟩ := List.mem_map.1 (List.mem_reverse.1 hp); have := hc.ok q hq; dsimp only; rw [show n - 1 - (n - 1 - q.1) = q.1 by omega, show m - 1 - (m - 1 - q.2) = q.2 by omega]
    omega
  rw [List.pairwise_reverse, List.pairwise_map]; refine List.Pairwise.imp_of_mem (fun {x y} hx hy h => ?_) hc.inc; have h1 := hc.ok x hx; have h2 := hc.ok y hy; dsimp only; omega
theorem tot_rev {s : Nat → Nat → Int} {n m : Nat} (hs : ∀ i k, i < n → k < m → s i k ≤ 1000) : tot (fun a b => s (n - 1 - a) (m - 1 - b)) n m 0 0 = tot s n m 0 0 := by
  refine Int.le_antisymm ?_ (tot_rev_le hs); have h := tot_rev_le (s := fun a b => s (n - 1 - a) (m - 1 - b)) (n := n) (m := m) (fun i k hi hk => hs _ _ (by omega) (by omega)); refine Int.le_trans h (Int.le_of_eq ?_); refine tot_congr (fun i k hi hk => ?_) _ 0 0 (Nat.le_refl _); rw [show n - 1 - (n - 1 - i) = i by omega, show m - 1 - (m - 1 - k) = k by omega]
/-! ## Tables -/
def tabF (f : Nat → Nat → Int) (n m : Nat) : List (List Int) := (List.range n).map fun i => (List.range m).map (f i)
theorem tabF_len (f : Nat → Nat → Int) (n m : Nat) : (tabF f n m).length = n := by simp [tabF]
theorem tabF_at {f : Nat → Nat → Int} {n m i k : Nat} (hi : i < n) (hk : k < m) : sAt (tabF f n m) i k = f i k := by
  simp [sAt, tabF, List.getElem?_range, hi, hk]
theorem tabF_ok {f : Nat → Nat → Int} {n m : Nat} (h : ∀ i k, i < n → k < m → 0 ≤ f i k ∧ f i k ≤ 1000) (hn : n ≤ 1024) (hm : m ≤ 1024) : TabOk (tabF f n m) m := by
  refine ⟨fun r hr => ?_, ⟨by rw [tabF_len]; exact hn, hm⟩, fun i k hi hk => ?_⟩
  · obtain ⟨i, -, rfl⟩ := List.mem_map.1 hr
    simp
  rw [tabF_len] at hi; rw [tabF_at hi hk]; exact h i k hi hk
theorem rowF_all {f : Nat → Int} {m : Nat} {fl : List Int} (hl : fl.length = m) (h : ∀ q, q < m → fl[q]? = some (f q)) : fl = (List.range m).map f := by
  apply List.ext_getElem?
  intro q
  by_cases hq : q < m
  · rw [h q hq]; simp [List.getElem?_range, hq]
  rw [List.getElem?_eq_none (by omega), List.getElem?_eq_none (by simp; omega)]
theorem head_or {S : List (List Int)} {m : Nat} (h : TabOk S m) : (S.headD []).length = m ∨ S.length = 0 := by
  cases S with
  | nil => exact .inr rfl
  | cons r S => exact .inl (h.wid r (List.mem_cons_self ..))
/-- The total of what Best gives. -/
theorem best_total {S : List (List Int)} {m : Nat} (h : TabOk S m) : sumM (bestL S) = tot (sAt S) S.length m 0 0 ∧ (∀ x ∈ bestL S, 0 ≤ x.score ∧ x.score ≤ 1000) ∧ (bestL S).length ≤ 1024 := by
  obtain ⟨hbl, hTab⟩ := best_tab h; have hsm : ∀ i k, i < S.length → k < (S.headD []).length → sAt S i k ≤ 1000 := fun i k hi hk => (hTab.ok i k hi hk).2; have hmo := bestS_ok hsm _ 0 0 (Nat.le_refl _); rw [hbl]; refine ⟨?_, fun x hx => ?_, ?_⟩
  · rw [bestS_sum hsm _ 0 0 (Nat.le_refl _)]
    rcases head_or h with e | e
    · rw [e]
    rw [tot_out (by omega), tot_out (by omega)]
  · obtain ⟨a, b, rfl, -, h1, -, h2, h4⟩ := hmo.1 x hx; exact ⟨by dsimp only; omega, hsm a b h1 h2⟩
  have := bestS_len (sAt S) S.length (S.headD []).length _ 0 0 (Nat.le_refl _); have := h.len; omega
set_option maxHeartbeats 4000000 in
theorem mirrors_true (G : GH) (w0 : World) (hG : Hold G w0) (l : List Int) (hl : ∀ z ∈ l, 0 ≤ z ∧ z < 65536) (v : Value) (hv : RepV G (.sl 1 (l.map u16Dat)) v) (n m : Int) (hn : 0 ≤ n ∧ n < 256) (hm : 0 ≤ m ∧ m < 256) :
    Calls Tryd.prog 5 #[v, .int .u8 n, .int .u8 m] w0 (Ret w0 G fun u G' => u = .bool true) := by
  obtain ⟨na, ha⟩ : ∃ na : Nat, n.tmod 21 = na := ⟨(n.tmod 21).toNat, by rw [Int.tmod_eq_emod_of_nonneg hn.1]; omega⟩; obtain ⟨nb, hb⟩ : ∃ nb : Nat, m.tmod 21 = nb := ⟨(m.tmod 21).toNat, by rw [Int.tmod_eq_emod_of_nonneg hm.1]; omega⟩
  have ha6 : na < 21 := by have := Int.emod_lt_of_pos n (show (0 : Int) < 21 by decide); rw [Int.tmod_eq_emod_of_nonneg hn.1] at ha; omega
  have hb6 : nb < 21 := by have := Int.emod_lt_of_pos m (show (0 : Int) < 21 by decide); rw [Int.tmod_eq_emod_of_nonneg hm.1] at hb; omega
  have hTb := tabS_ok hl (n := na) (m := nb) (by omega) (by omega); obtain ⟨S, hS⟩ : ∃ S, S = tabS l na nb := ⟨_, rfl⟩; rw [← hS] at hTb
  have hSl : S.length = na := by rw [hS, tabS_len]
  have hin : ∀ i k, i < na → k < nb → 0 ≤ sAt S i k ∧ sAt S i k ≤ 1000 := fun i k hi hk => hTb.ok i k (by omega) hk; have hin1 : ∀ i k, i < na → k < nb → sAt S i k ≤ 1000 := fun i k hi hk => (hin i k hi hk).2; obtain ⟨TT, hTT⟩ : ∃ x, x = tabF (fun k i => sAt S i k) nb na := ⟨_, rfl⟩; obtain ⟨TB, hTB⟩ : ∃ x, x = tabF (fun r q => sAt S (na - 1 - r) (nb - 1 - q)) na nb := ⟨_, rfl⟩
  have hTt : TabOk TT na := by rw [hTT]; exact tabF_ok (fun i k hi hk => hin k i hk hi) (by omega) (by omega)
  have hTk : TabOk TB nb := by rw [hTB]; exact tabF_ok (fun i k hi hk => hin _ _ (by omega) (by omega)) (by omega) (by omega)
  have hTl : TT.length = nb := by rw [hTT, tabF_len]
  have hBl : TB.length = na := by rw [hTB, tabF_len]
  obtain ⟨s1, s1b, s1c⟩ := best_total hTb; obtain ⟨s2, s2b, s2c⟩ := best_total hTt; obtain ⟨s3, s3b, s3c⟩ := best_total hTk
  have e2 : sumM (bestL TT) = sumM (bestL S) := by
    rw [s2, s1, hTl, hSl, ← tot_swap hin1]; exact tot_congr (fun i k hi hk => by rw [hTT, tabF_at hi hk]) _ 0 0 (Nat.le_refl _)
  have e3 : sumM (bestL TB) = sumM (bestL S) := by
    rw [s3, s1, hBl, hSl, ← tot_rev hin1]; exact tot_congr (fun i k hi hk => by rw [hTB, tabF_at hi hk]) _ 0 0 (Nat.le_refl _)
  have c1 := tab_chk hTb; have c2 := tab_chk hTt; have c3 := tab_chk hTk; have hml : maxLen = 9223372036854775807 := rfl; refine enter (N := 132) (T := [(0, _), (1, _), (2, _)]) (F := fun k => k < w0.heap.size) (L := []) Tryd.func5 rfl Tryd.ntmps5 rfl rfl hG (fun _ h => h) (fun _ h => by cases h) (fun _ h => by cases h) (fun _ h => by cases h) List.Pairwise.nil ?_; intro a H; refine c_seq (fun _ hK1 => ?_); refine c_region ?_; refine s_assign H wn rfl rfl ?_; clear H; intro a H; refine wl_nil ?_; refine hK1 _ _ ?_; clear hK1; refine c_seq (fun _ hK2 => ?_); refine c_region ?_; refine s_move H wn rfl rfl ?_; clear H; intro a H; refine s_remk (na : Int) H wn rfl rfl (by decide) ha rfl ?_; clear H; intro a H; refine s_conv (na : Int) un3mir un5mir H wn rfl (by rw [i64_wrap (by omega) (by omega)]) rfl ?_; clear H; intro a H; refine s_move H wn rfl rfl ?_; clear H; intro a H; refine s_remk (nb : Int) H wn rfl rfl (by decide) hb rfl ?_; clear H; intro a H; refine s_conv (nb : Int) un3mir un5mir H wn rfl (by rw [i64_wrap (by omega) (by omega)]) rfl ?_; clear H; intro a H; (iterate 2 refine s_assign H wn rfl rfl ?_; clear H; intro a H); refine wl_nil ?_; refine hK2 _ _ ?_; clear hK2; refine c_seq (fun _ hK3 => ?_); refine c_region ?_; (iterate 3 refine s_move H wn rfl rfl ?_; clear H; intro a H); refine s_call en9mir H wn rfl (table_spec _ _ H.hp.ro l hl v hv na nb (by omega) (by omega)) rfl ?_; clear H; rintro v33 G33 a w hr33 hm33 H; rw [← hS] at hr33; obtain ⟨sA, sc, rfl, -, -, -⟩ := hr33.slice; rw [List.length_map] at *; refine s_assign H wn rfl rfl ?_; clear H; intro a H; refine wl_nil ?_; refine hK3 _ _ ?_; clear hK3; refine c_seq (fun _ hK4 => ?_); refine c_region ?_; (iterate 2 refine s_assign H wn rfl rfl ?_; clear H; intro a H); refine wl_nil ?_; refine hK4 _ _ ?_; clear hK4; refine c_seq (fun _ hK5 => ?_); refine c_seq (fun _ hK6 => ?_); refine c_region ?_; refine s_assign H wn rfl rfl ?_; clear H; intro a H; refine wl_nil ?_; refine hK6 _ _ ?_; clear hK6; refine c_block ?_; skip; refine c_loopS (ι := Nat × Value × List Value × OL × GH) (Tc := [(7, _), (8, _), (9, _), (11, _)]) (Lc := []) (fun (gh : Nat × Value × List Value × OL × GH) => [(10, gh.2.1), (12, vi gh.1)]) (fun (gh : Nat × Value × List Value × OL × GH) => [] ++ gh.2.2.2.1) (fun (gh : Nat × Value × List Value × OL × GH) => gh.2.2.2.2) (fun (gh : Nat × Value × List Value × OL × GH) => gh.1 ≤ nb ∧ IsRow 32 1 gh.2.1 gh.1 gh.2.2.1 gh.2.2.2.1 ∧ RepCat gh.2.2.2.2 1 ((TT.take gh.1).map rowDat) gh.2.2.1 ∧ (∀ b o, G33 b = some o → gh.2.2.2.2 b = some o)) (fun (gh : Nat × Value × List Value × OL × GH) => nb - gh.1) ((0, .slice none 0 0, [], [], G33)) (by exact (H).sub ⟨rfl, rfl, rfl, rfl, rfl, rfl, trivial⟩) ?_ ?_
  · exact ⟨Nat.zero_le _, IsRow.nil, RepCat.nil, fun _ _ h => h⟩
  clear H; intro gh a w hI H; obtain ⟨k, v10, xs, Lo, g⟩ := gh; dsimp only at hI H; obtain ⟨hk, hrw, hcat, hgm⟩ := hI; dsimp only [List.cons_append, List.nil_append, List.append_nil] at H; refine c_seq (fun _ hK7 => ?_); refine c_seq (fun _ hK8 => ?_); refine c_region ?_; (iterate 2 refine s_move H wn rfl rfl ?_; clear H; intro a H); refine s_cmp H wn rfl rfl rfl rfl ?_; clear H; intro a H; refine wl_nil ?_; refine hK8 _ _ ?_; clear hK8; refine c_cond H rfl ?_ ?_
  · intro h36
    try have p36 := of_decide_eq_true h36
    have hk1 : k < nb := by omega
    refine c_skip ?_; refine hK7 _ _ ?_; clear hK7; refine c_seq (fun _ hK9 => ?_); refine c_block ?_; refine c_seq (fun _ hK10 => ?_); refine c_region ?_; refine s_move H wn rfl rfl ?_; clear H; intro a H; refine s_make1 na un32mir ty3mir H wn rfl rfl rfl (by omega) (by omega) rfl ?_; clear H; intro b40 a w hb40 H; rw [show List.replicate na (Value.int .i64 0) = (List.replicate na (0 : Int)).map vi from List.map_replicate.symm] at H; refine s_assign H wn rfl rfl ?_; clear H; intro a H; refine wl_nil ?_; refine hK10 _ _ ?_; clear hK10; refine c_seq (fun _ hK11 => ?_); refine c_seq (fun _ hK12 => ?_); refine c_region ?_; refine s_assign H wn rfl rfl ?_; clear H; intro a H; refine wl_nil ?_; refine hK12 _ _ ?_; clear hK12; refine c_block ?_; skip; refine c_loopS (ι := Nat × List Int) (Tc := [(7, _), (8, _), (9, _), (10, _), (11, _), (12, _), (13, _)]) (Lc := []) (fun (gh : Nat × List Int) => [(14, vi gh.1)]) (fun (gh : Nat × List Int) => [bF b40 gh.2] ++ Lo) (fun (gh : Nat × List Int) => g) (fun (gh : Nat × List Int) => gh.1 ≤ na ∧ gh.2.length = na ∧ (∀ q, q < gh.1 → gh.2[q]? = some (sAt S q k))) (fun (gh : Nat × List Int) => na - gh.1) ((0, List.replicate na 0)) (by exact (H).sub ⟨rfl, rfl, rfl, rfl, rfl, rfl, rfl, rfl, trivial⟩) ?_ ?_
    · exact ⟨Nat.zero_le _, by simp, fun q hq => absurd hq (Nat.not_lt_zero _)⟩
    clear H; intro gh a w hI H; obtain ⟨i, fl⟩ := gh; dsimp only at hI H; obtain ⟨hi, hfl, hfq⟩ := hI; dsimp only [List.cons_append, List.nil_append, List.append_nil] at H; refine c_seq (fun _ hK13 => ?_); refine c_seq (fun _ hK14 => ?_); refine c_region ?_; (iterate 2 refine s_move H wn rfl rfl ?_; clear H; intro a H); refine s_cmp H wn rfl rfl rfl rfl ?_; clear H; intro a H; refine wl_nil ?_; refine hK14 _ _ ?_; clear hK14; refine c_cond H rfl ?_ ?_
    · intro h43
      try have p43 := of_decide_eq_true h43
      have hi1 : i < na := by omega
      obtain ⟨sb, so, rb, ro, rc, rfl, g1, gn⟩ := hTb.row (hr33.mono hgm) (show i < S.length by omega) hk1; refine c_skip ?_; refine hK13 _ _ ?_; clear hK13; refine c_seq (fun _ hK15 => ?_); refine c_block ?_; refine c_region ?_; (iterate 4 refine s_move H wn rfl rfl ?_; clear H; intro a H); refine s_index un23mir ty32mir i H wn rfl rfl rfl (by omega) rfl ?_; clear H; intro a H; refine s_load ty32mir H wn rfl (H.hp.gcell g1) rfl ?_; clear H; intro a H; refine s_move H wn rfl rfl ?_; clear H; intro a H; refine s_index un32mir ty3mir k H wn rfl rfl rfl (by omega) rfl ?_; clear H; intro a H; refine s_load ty3mir H wn rfl (H.hp.gcell gn) rfl ?_; clear H; intro a H; refine s_index un32mir ty3mir i H wn rfl rfl rfl (by omega) rfl ?_; clear H; intro a H; refine s_store ty3mir 0 (c := fl.map vi) (vs := [_]) ((fl.set i (sAt S i k)).map vi) H wn rfl rfl rfl rfl rfl rfl (Eq.mpr Nat.ble_eq (by rw [List.length_map, hfl]; simp only [List.length_singleton]; omega)) (by rw [Nat.zero_add, Nat.mul_one, List.map_set]; rfl) ?_; clear H; intro w H; dsimp only [List.set] at H; refine wl_nil ?_; refine hK15 _ _ ?_; clear hK15; refine c_region ?_; refine s_move H wn rfl rfl ?_; clear H; intro a H; refine s_add _ H wn rfl rfl rfl (by omega) (by omega) rfl ?_; clear H; intro a H; refine s_assign H wn rfl rfl ?_; clear H; intro a H; refine wl_nil ?_; refine loop_end ((i + 1, fl.set i (sAt S i k))) (by exact (H).sub ⟨rfl, rfl, rfl, rfl, rfl, rfl, rfl, rfl, trivial⟩) ?_ ?_
      · try dsimp only
        exact ⟨by omega, by simp [hfl], fun q hq => by
            by_cases e : q = i
            · subst e; rw [List.getElem?_set_self (by omega)]
            rw [List.getElem?_set_ne (by omega)]; exact hfq q (by omega)⟩
      first | omega | (dsimp only; omega)
    intro h43
    try have p43 := of_decide_eq_false h43
    refine c_exit ?_; refine hK11 _ _ ?_; clear hK11; have hrow := rowF_all hfl (fun q hq => hfq q (by omega)); obtain ⟨G3, hm3, hg3, H⟩ := St.giveBox H
    have hrow3 : RepV G3 (.sl 1 (((List.range na).map fun q => sAt S q k).map numDat)) (.slice (some ⟨b40, 0, none⟩) na na) := by
      rw [← hrow]; exact RepV.of_row (xs := fl.map vi) hg3 (by rw [List.length_map, hfl]) (Nat.le_refl _) (by omega) (List.take_of_length_le (by simp [hfl])) (nums_cat _ _)
    have hcat3 : RepCat G3 1 ((TT.take (k + 1)).map rowDat) (xs ++ [.slice (some ⟨b40, 0, none⟩) na na]) := by
      rw [List.take_succ_eq_append_getElem (by omega), show TT[k]'(by omega) = (List.range na).map fun q => sAt S q k by simp [hTT, tabF], List.map_append]; exact (hcat.mono hm3).snoc (rowd_row hrow3) rfl
    refine c_region ?_; (iterate 2 refine s_move H wn rfl rfl ?_; clear H; intro a H); refine s_buildSlice un23mir ty32mir [_] [_] H wn rfl rfl rfl rfl rfl (by intro i q h; match i, h with | 0, h => exact h | n + 1, h => simp at h) rfl rfl ?_; clear H; intro b58 a w hb58 H; refine s_append (Li := [_]) (Lo := Lo) (news := [.slice (some ⟨b40, 0, none⟩) na na]) un23mir ty32mir rfl rfl H wn rfl rfl hrw rfl (H.hp.ocells 0 rfl rfl) rfl (by omega) (by omega) rfl ?_; clear H; intro v59 Lo59 a w hrw59 H; refine s_assign H wn rfl rfl ?_; clear H; intro a H; refine wl_nil ?_; refine hK9 _ _ ?_; clear hK9; refine c_region ?_; refine s_move H wn rfl rfl ?_; clear H; intro a H; refine s_add _ H wn rfl rfl rfl (by omega) (by omega) rfl ?_; clear H; intro a H; refine s_assign H wn rfl rfl ?_; clear H; intro a H; refine wl_nil ?_; refine loop_end ((k + 1, v59, xs ++ [.slice (some ⟨b40, 0, none⟩) na na], Lo59, G3)) (by exact (H.pickT (Pl := [_]) (Pl' := []) [] (by decide) rfl).sub ⟨rfl, rfl, rfl, rfl, rfl, rfl, trivial⟩) ?_ ?_
    · (try dsimp only); exact ⟨by omega, hrw59, hcat3, fun b o h => hm3 b o (hgm b o h)⟩
    first | omega | (dsimp only; omega)
  intro h36
  try have p36 := of_decide_eq_false h36
  refine c_exit ?_; refine hK5 _ _ ?_; clear hK5; refine c_seq (fun _ hK16 => ?_); refine c_seq (fun _ hK17 => ?_)
  have hke : k = nb := by omega
  obtain ⟨G5, hm5, hrT, H⟩ := St.giveRow (Li := []) (Lo := Lo) H hrw (rows := TT.map rowDat) (by rw [List.length_map]; omega) (by rw [List.take_of_length_le (by omega)] at hcat; exact hcat); replace hr33 := (hr33.mono hgm).mono hm5; refine c_region ?_; refine s_move H wn rfl rfl ?_; clear H; intro a H; refine s_sub _ H wn rfl rfl rfl (by omega) (by omega) rfl ?_; clear H; intro a H; refine s_assign H wn rfl rfl ?_; clear H; intro a H; refine wl_nil ?_; refine hK17 _ _ ?_; clear hK17; refine c_block ?_; skip; refine c_loopS (ι := Nat × Value × List Value × OL × GH) (Tc := [(8, _), (9, _), (10, _)]) (Lc := []) (fun (gh : Nat × Value × List Value × OL × GH) => [(11, gh.2.1), (15, vi ((gh.1 : Int) - 1))]) (fun (gh : Nat × Value × List Value × OL × GH) => [] ++ gh.2.2.2.1) (fun (gh : Nat × Value × List Value × OL × GH) => gh.2.2.2.2) (fun (gh : Nat × Value × List Value × OL × GH) => gh.1 ≤ na ∧ IsRow 32 1 gh.2.1 (na - gh.1) gh.2.2.1 gh.2.2.2.1 ∧ RepCat gh.2.2.2.2 1 ((TB.take (na - gh.1)).map rowDat) gh.2.2.1 ∧ (∀ b o, G5 b = some o → gh.2.2.2.2 b = some o)) (fun (gh : Nat × Value × List Value × OL × GH) => gh.1) ((na, .slice none 0 0, [], [], G5)) (by exact (H).sub ⟨rfl, rfl, rfl, rfl, rfl, trivial⟩) ?_ ?_
  · exact ⟨Nat.le_refl _, by dsimp only; rw [Nat.sub_self]; exact IsRow.nil, by dsimp only; rw [Nat.sub_self]; exact RepCat.nil, fun _ _ h => h⟩
  clear H; intro gh a w hI H; obtain ⟨j, v11, ys, Lo, g⟩ := gh; dsimp only at hI H; obtain ⟨hj, hrw, hcat, hgm5⟩ := hI; dsimp only [List.cons_append, List.nil_append, List.append_nil] at H; refine c_seq (fun _ hK18 => ?_); refine c_seq (fun _ hK19 => ?_); refine c_region ?_; refine s_move H wn rfl rfl ?_; clear H; intro a H; refine s_cmp H wn rfl rfl rfl rfl ?_; clear H; intro a H; refine wl_nil ?_; refine hK19 _ _ ?_; clear hK19; refine c_cond H rfl ?_ ?_
  · intro h63
    try have p63 := of_decide_eq_true h63
    obtain ⟨i, rfl⟩ : ∃ i, j = i + 1 := ⟨j - 1, by omega⟩; rw [show (((i + 1 : Nat) : Int) - 1) = (i : Int) by omega] at H
    have hi1 : i < na := by omega
    refine c_skip ?_; refine hK18 _ _ ?_; clear hK18; refine c_seq (fun _ hK20 => ?_); refine c_block ?_; refine c_seq (fun _ hK21 => ?_); refine c_region ?_; refine s_move H wn rfl rfl ?_; clear H; intro a H; refine s_make1 nb un32mir ty3mir H wn rfl rfl rfl (by omega) (by omega) rfl ?_; clear H; intro b67 a w hb67 H; rw [show List.replicate nb (Value.int .i64 0) = (List.replicate nb (0 : Int)).map vi from List.map_replicate.symm] at H; refine s_assign H wn rfl rfl ?_; clear H; intro a H; refine wl_nil ?_; refine hK21 _ _ ?_; clear hK21; refine c_seq (fun _ hK22 => ?_); refine c_seq (fun _ hK23 => ?_); refine c_region ?_; refine s_assign H wn rfl rfl ?_; clear H; intro a H; refine wl_nil ?_; refine hK23 _ _ ?_; clear hK23; refine c_block ?_; skip; refine c_loopS (ι := Nat × List Int) (Tc := [(8, _), (9, _), (10, _), (11, _), (15, _), (16, _)]) (Lc := []) (fun (gh : Nat × List Int) => [(17, vi gh.1)]) (fun (gh : Nat × List Int) => [bF b67 gh.2] ++ Lo) (fun (gh : Nat × List Int) => g) (fun (gh : Nat × List Int) => gh.1 ≤ nb ∧ gh.2.length = nb ∧ (∀ q, nb - gh.1 ≤ q → q < nb → gh.2[q]? = some (sAt S i (nb - 1 - q)))) (fun (gh : Nat × List Int) => nb - gh.1) ((0, List.replicate nb 0)) (by exact (H).sub ⟨rfl, rfl, rfl, rfl, rfl, rfl, rfl, trivial⟩) ?_ ?_
    · exact ⟨Nat.zero_le _, by simp, fun q h1 h2 => by omega⟩
    clear H; intro gh a w hI H; obtain ⟨k2, fl⟩ := gh; dsimp only at hI H; obtain ⟨hk2, hfl, hfq⟩ := hI; dsimp only [List.cons_append, List.nil_append, List.append_nil] at H; refine c_seq (fun _ hK24 => ?_); refine c_seq (fun _ hK25 => ?_); refine c_region ?_; (iterate 2 refine s_move H wn rfl rfl ?_; clear H; intro a H); refine s_cmp H wn rfl rfl rfl rfl ?_; clear H; intro a H; refine wl_nil ?_; refine hK25 _ _ ?_; clear hK25; refine c_cond H rfl ?_ ?_
    · intro h70
      try have p70 := of_decide_eq_true h70
      have hk3 : k2 < nb := by omega
      obtain ⟨sb, so, rb, ro, rc, e0, g1, gn⟩ := hTb.row (hr33.mono hgm5) (show i < S.length by omega) hk3; subst e0; refine c_skip ?_; refine hK24 _ _ ?_; clear hK24; refine c_seq (fun _ hK26 => ?_); refine c_block ?_; refine c_region ?_; (iterate 2 refine s_move H wn rfl rfl ?_; clear H; intro a H); refine s_sub _ H wn rfl rfl rfl (by omega) (by omega) rfl ?_; clear H; intro a H; refine s_move H wn rfl rfl ?_; clear H; intro a H; refine s_sub _ H wn rfl rfl rfl (by omega) (by omega) rfl ?_; clear H; intro a H; (iterate 2 refine s_move H wn rfl rfl ?_; clear H; intro a H); refine s_index un23mir ty32mir i H wn rfl rfl rfl (by omega) rfl ?_; clear H; intro a H; refine s_load ty32mir H wn rfl (H.hp.gcell g1) rfl ?_; clear H; intro a H; refine s_move H wn rfl rfl ?_; clear H; intro a H; refine s_index un32mir ty3mir k2 H wn rfl rfl rfl (by omega) rfl ?_; clear H; intro a H; refine s_load ty3mir H wn rfl (H.hp.gcell gn) rfl ?_; clear H; intro a H; refine s_index un32mir ty3mir (nb - 1 - k2) H wn rfl rfl (by omega) (by omega) rfl ?_; clear H; intro a H; refine s_store ty3mir 0 (c := fl.map vi) (vs := [_]) ((fl.set (nb - 1 - k2) (sAt S i k2)).map vi) H wn rfl rfl rfl rfl rfl rfl (Eq.mpr Nat.ble_eq (by rw [List.length_map, hfl]; simp only [List.length_singleton]; omega)) (by rw [Nat.zero_add, Nat.mul_one, List.map_set]; rfl) ?_; clear H; intro w H; dsimp only [List.set] at H; refine wl_nil ?_; refine hK26 _ _ ?_; clear hK26; refine c_region ?_; refine s_move H wn rfl rfl ?_; clear H; intro a H; refine s_add _ H wn rfl rfl rfl (by omega) (by omega) rfl ?_; clear H; intro a H; refine s_assign H wn rfl rfl ?_; clear H; intro a H; refine wl_nil ?_; refine loop_end ((k2 + 1, fl.set (nb - 1 - k2) (sAt S i k2))) (by exact (H).sub ⟨rfl, rfl, rfl, rfl, rfl, rfl, rfl, trivial⟩) ?_ ?_
      · try dsimp only
        exact ⟨by omega, by simp [hfl], fun q h1 h2 => by
            by_cases e : q = nb - 1 - k2
            · subst e; rw [List.getElem?_set_self (by omega), show nb - 1 - (nb - 1 - k2) = k2 by omega]
            rw [List.getElem?_set_ne (by omega)]; exact hfq q (by omega) h2⟩
      first | omega | (dsimp only; omega)
    intro h70
    try have p70 := of_decide_eq_false h70
    refine c_exit ?_; refine hK22 _ _ ?_; clear hK22; have hrow := rowF_all hfl (fun q hq => hfq q (by omega) hq); obtain ⟨G6, hm6, hg6, H⟩ := St.giveBox H
    have hrow6 : RepV G6 (.sl 1 (((List.range nb).map fun q => sAt S i (nb - 1 - q)).map numDat)) (.slice (some ⟨b67, 0, none⟩) nb nb) := by
      rw [← hrow]; exact RepV.of_row (xs := fl.map vi) hg6 (by rw [List.length_map, hfl]) (Nat.le_refl _) (by omega) (List.take_of_length_le (by simp [hfl])) (nums_cat _ _)
    have hcat6 : RepCat G6 1 ((TB.take (na - i)).map rowDat) (ys ++ [.slice (some ⟨b67, 0, none⟩) nb nb]) := by
      rw [show na - i = na - (i + 1) + 1 by omega, List.take_succ_eq_append_getElem (by omega), show TB[na - (i + 1)]'(by omega) = (List.range nb).map fun q => sAt S i (nb - 1 - q) by simp [hTB, tabF]; intro q hq; rw [show na - 1 - (na - (i + 1)) = i by omega], List.map_append]; exact (hcat.mono hm6).snoc (rowd_row hrow6) rfl
    refine c_region ?_; (iterate 2 refine s_move H wn rfl rfl ?_; clear H; intro a H); refine s_buildSlice un23mir ty32mir [_] [_] H wn rfl rfl rfl rfl rfl (by intro i q h; match i, h with | 0, h => exact h | n + 1, h => simp at h) rfl rfl ?_; clear H; intro b88 a w hb88 H; refine s_append (Li := [_]) (Lo := Lo) (news := [.slice (some ⟨b67, 0, none⟩) nb nb]) un23mir ty32mir rfl rfl H wn rfl rfl hrw rfl (H.hp.ocells 0 rfl rfl) rfl (by omega) (by omega) rfl ?_; clear H; intro v89 Lo89 a w hrw89 H; refine s_assign H wn rfl rfl ?_; clear H; intro a H; refine wl_nil ?_; refine hK20 _ _ ?_; clear hK20; refine c_region ?_; refine s_move H wn rfl rfl ?_; clear H; intro a H; refine s_sub _ H wn rfl rfl rfl (by omega) (by omega) rfl ?_; clear H; intro a H; refine s_assign H wn rfl rfl ?_; clear H; intro a H; refine wl_nil ?_; refine loop_end ((i, v89, ys ++ [.slice (some ⟨b67, 0, none⟩) nb nb], Lo89, G6)) (by exact (H.pickT (Pl := [_]) (Pl' := []) [] (by decide) rfl).sub ⟨rfl, rfl, rfl, rfl, rfl, trivial⟩) ?_ ?_
    · (try dsimp only); exact ⟨by omega, by rw [show na - i = na - (i + 1) + 1 by omega]; exact hrw89, hcat6, fun b o h => hm6 b o (hgm5 b o h)⟩
    first | omega | (dsimp only; omega)
  intro h63
  try have p63 := of_decide_eq_false h63
  refine c_exit ?_; refine hK16 _ _ ?_; clear hK16; refine c_seq (fun _ hK27 => ?_)
  have hje : j = 0 := by omega
  subst hje; obtain ⟨G7, hm7, hrB, H⟩ := St.giveRow (Li := []) (Lo := Lo) H hrw (rows := TB.map rowDat) (by rw [List.length_map]; omega) (by rw [List.take_of_length_le (by omega)] at hcat; exact hcat); replace hr33 := (hr33.mono hgm5).mono hm7; replace hrT := (hrT.mono hgm5).mono hm7; refine c_region ?_; refine s_move H wn rfl rfl ?_; clear H; intro a H; refine s_call en10mir H wn rfl (best_spec _ _ H.hp.ro S _ hr33) rfl ?_; clear H; rintro v92 G92 a w ⟨x92, rfl, hx92⟩ hm92 H; rw [c1] at H; refine s_move H wn rfl rfl ?_; clear H; intro a H; (iterate 2 refine s_extract H wn rfl rfl rfl ?_; clear H; intro a H); (iterate 2 refine s_assign H wn rfl rfl ?_; clear H; intro a H); refine wl_nil ?_; refine hK27 _ _ ?_; clear hK27; refine c_seq (fun _ hK28 => ?_); refine c_region ?_; refine s_move H wn rfl rfl ?_; clear H; intro a H; refine s_call en10mir H wn rfl (best_spec _ _ H.hp.ro TT _ (hrT.mono hm92)) rfl ?_; clear H; rintro v97 G97 a w ⟨x97, rfl, hx97⟩ hm97 H; rw [c2] at H; refine s_move H wn rfl rfl ?_; clear H; intro a H; (iterate 2 refine s_extract H wn rfl rfl rfl ?_; clear H; intro a H); (iterate 2 refine s_assign H wn rfl rfl ?_; clear H; intro a H); refine wl_nil ?_; refine hK28 _ _ ?_; clear hK28; refine c_seq (fun _ hK29 => ?_); refine c_region ?_; refine s_move H wn rfl rfl ?_; clear H; intro a H; refine s_call en10mir H wn rfl (best_spec _ _ H.hp.ro TB _ ((hrB.mono hm92).mono hm97)) rfl ?_; clear H; rintro v102 G102 a w ⟨x102, rfl, hx102⟩ hm102 H; rw [c3] at H; refine s_move H wn rfl rfl ?_; clear H; intro a H; (iterate 2 refine s_extract H wn rfl rfl rfl ?_; clear H; intro a H); (iterate 2 refine s_assign H wn rfl rfl ?_; clear H; intro a H); refine wl_nil ?_; refine hK29 _ _ ?_; clear hK29; refine c_seq (fun _ hK30 => ?_); refine c_region ?_; refine s_call en11mir H wn rfl (known_spec _ _ H.hp.ro) rfl ?_; clear H; rintro v105 G105 a w rfl hm105 H; have t1 := ((hx92.mono hm97).mono hm102).mono hm105; have t2 := (hx97.mono hm102).mono hm105; have t3 := hx102.mono hm105; refine s_move H wn rfl rfl ?_; clear H; intro a H; refine s_split H 106 rfl ?_ ?_
  · intro h106
    try have p106 := of_decide_eq_true h106
    refine s_move H (wg H rfl rfl h106) rfl rfl ?_; clear H; intro a H; refine s_cmp H (wg H rfl rfl h106) rfl rfl rfl rfl ?_; clear H; intro a H; refine s_pick_t H wn rfl h106 rfl rfl ?_; clear H; intro a H; refine s_move H wn rfl rfl ?_; clear H; intro a H; refine s_split H 110 rfl ?_ ?_
    · intro h110
      try have p110 := of_decide_eq_true h110
      refine s_move H (wg H rfl rfl h110) rfl rfl ?_; clear H; intro a H; refine s_cmp H (wg H rfl rfl h110) rfl rfl rfl rfl ?_; clear H; intro a H; refine s_pick_t H wn rfl h110 rfl rfl ?_; clear H; intro a H; refine s_move H wn rfl rfl ?_; clear H; intro a H; refine s_split H 114 rfl ?_ ?_
      · intro h114
        try have p114 := of_decide_eq_true h114
        refine s_move H (wg H rfl rfl h114) rfl rfl ?_; clear H; intro a H; refine s_cmp H (wg H rfl rfl h114) rfl rfl rfl rfl ?_; clear H; intro a H; refine s_pick_t H wn rfl h114 rfl rfl ?_; clear H; intro a H; refine s_move H wn rfl rfl ?_; clear H; intro a H; refine s_split H 118 rfl ?_ ?_
        · intro h118
          try have p118 := of_decide_eq_true h118
          refine s_move H (wg H rfl rfl h118) rfl rfl ?_; clear H; intro a H; refine s_call en12mir H (wg H rfl rfl h118) rfl (total_spec _ _ H.hp.ro _ _ t1 s1b (by omega)) rfl ?_; clear H; rintro v120 _ a w ⟨rfl, rfl⟩ hm120 H; refine s_move H (wg H rfl rfl h118) rfl rfl ?_; clear H; intro a H; refine s_call en12mir H (wg H rfl rfl h118) rfl (total_spec _ _ H.hp.ro _ _ t2 s2b (by omega)) rfl ?_; clear H; rintro v122 _ a w ⟨rfl, rfl⟩ hm122 H; rw [e2] at H; refine s_cmp H (wg H rfl rfl h118) rfl rfl rfl rfl ?_; clear H; intro a H; refine s_pick_t H wn rfl h118 rfl rfl ?_; clear H; intro a H; refine s_move H wn rfl rfl ?_; clear H; intro a H; refine s_split H 125 rfl ?_ ?_
          · intro h125
            try have p125 := of_decide_eq_true h125
            refine s_move H (wg H rfl rfl h125) rfl rfl ?_; clear H; intro a H; refine s_call en12mir H (wg H rfl rfl h125) rfl (total_spec _ _ H.hp.ro _ _ t1 s1b (by omega)) rfl ?_; clear H; rintro v127 _ a w ⟨rfl, rfl⟩ hm127 H; refine s_move H (wg H rfl rfl h125) rfl rfl ?_; clear H; intro a H; refine s_call en12mir H (wg H rfl rfl h125) rfl (total_spec _ _ H.hp.ro _ _ t3 s3b (by omega)) rfl ?_; clear H; rintro v129 _ a w ⟨rfl, rfl⟩ hm129 H; rw [e3] at H; refine s_cmp H (wg H rfl rfl h125) rfl rfl rfl rfl ?_; clear H; intro a H; refine s_pick_t H wn rfl h125 rfl rfl ?_; clear H; intro a H; refine s_assign H wn rfl rfl ?_; clear H; intro a H; refine wl_nil ?_; refine hK30 _ _ ?_; clear hK30; refine c_ret ?_; refine (leave1 H Tryd.results5 (.cons (rv_tmp H rfl) .nil) ?_).1; exact H.hp.ret (by simp)
          intro h125
          try have p125 := of_decide_eq_false h125
          exact absurd h125 (by simp)
        intro h118
        try have p118 := of_decide_eq_false h118
        exact absurd h118 (by decide)
      intro h114
      try have p114 := of_decide_eq_false h114
      exact absurd h114 (by decide)
    intro h110
    try have p110 := of_decide_eq_false h110
    exact absurd h110 (by decide)
  intro h106
  try have p106 := of_decide_eq_false h106
  exact absurd h106 (by decide)
end Go.Proofs.YtpmcdlhhfbobfaaDoor
