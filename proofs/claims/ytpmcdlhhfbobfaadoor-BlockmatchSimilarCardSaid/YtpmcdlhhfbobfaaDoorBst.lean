/-
  Package blockmatch: Best.
-/
import Derived.Test.YtpmcdlhhfbobfaaDoorMk
import Derived.Test.YtpmcdlhhfbobfaaDoorProg
import Derived.Test.YtpmcdlhhfbobfaaDoorChecked
import Derived.KernelRfl
namespace Go.Proofs.YtpmcdlhhfbobfaaDoor
open Go.RowKit
theorem hmxb : Tryd.prog.follows .mixedOrders = true := by kernel_rfl
theorem ty23bst : Ty Tryd.prog 23 1 24 [.slice none 0 0] false := ⟨by kernel_rfl, by kernel_rfl⟩
theorem ty32bst : Ty Tryd.prog 32 1 24 [.slice none 0 0] false := ⟨by kernel_rfl, by kernel_rfl⟩
theorem ty3bst : Ty Tryd.prog 3 1 8 [.int .i64 0] false := ⟨by kernel_rfl, by kernel_rfl⟩
theorem un23bst : Tryd.prog.underlying 23 = some (.slice 32) := by kernel_rfl
theorem un32bst : Tryd.prog.underlying 32 = some (.slice 3) := by kernel_rfl
theorem en22bst : ∀ args w, (callFunc 22 args).run Tryd.prog w = .ok (.enter 22 args) w := enters Tryd.func22 rfl (by kernel_rfl)
def numDat (k : Int) : List Dat := [li k]
theorem num_row (G : GH) (k : Int) : RepRow G (numDat k) [vi k] := by
  simp only [numDat, RepRow]
  exact ⟨_, _, rfl, by simp [RepV, Value.oneCell'], rfl⟩
theorem num_of {G : GH} {k : Int} {cs : List Value} (h : RepRow G (numDat k) cs) : cs = [vi k] := by
  simp only [numDat, RepRow, RepV] at h
  obtain ⟨v1, _, rfl, ⟨rfl, -⟩, rfl⟩ := h
  rfl
def rowDat (r : List Int) : List Dat := [.sl 1 (r.map numDat)]
theorem num_at {G : GH} {r : List Int} {A : Option Addr} {n c k : Nat} (hv : RepV G (.sl 1 (r.map numDat)) (.slice A n c)) (hk : k < r.length) : ∃ b o, A = some ⟨b, o, none⟩ ∧ gcell G b (o + k * 1) = some (vi r[k]) := by
  obtain ⟨A', c', he, _, _, hg⟩ := hv.slice
  injection he with e1 e2 e3
  subst e1; obtain ⟨b, o, cs, h1, h2, h3, h4⟩ := hg k (numDat r[k]) (by simp [hk]); obtain rfl := num_of h4; exact ⟨b, o, h1, h3 0 _ rfl⟩
theorem mat_row {G : GH} {S : List (List Int)} {A : Option Addr} {n c i : Nat} (hv : RepV G (.sl 1 (S.map rowDat)) (.slice A n c)) (hi : i < S.length) : ∃ b o bA bc, A = some ⟨b, o, none⟩ ∧ gcell G b (o + i * 1) = some (.slice bA S[i].length bc) ∧ RepV G (.sl 1 (S[i].map numDat)) (.slice bA S[i].length bc) := by
  obtain ⟨A', c', he, _, _, hg⟩ := hv.slice
  injection he with e1 e2 e3
  subst e1; obtain ⟨b, o, cs, h1, h2, h3, h4⟩ := hg i (rowDat S[i]) (by simp [hi])
  simp only [rowDat, RepRow] at h4
  obtain ⟨v, _, rfl, h5, rfl⟩ := h4; obtain ⟨bA, bn, bc, rfl⟩ := h5.form; obtain ⟨_, _, he5, -⟩ := h5.slice; obtain ⟨-, hn, -⟩ := Value.slice.inj he5; rw [List.length_map] at hn; subst hn; exact ⟨b, o, bA, bc, h1, h3 0 _ rfl, h5⟩
/-! ## The table -/
def sAt (S : List (List Int)) (i k : Nat) : Int := (S.getD i []).getD k 0
theorem sAt_eq {S : List (List Int)} {i k : Nat} (hi : i < S.length) (hk : k < S[i].length) : sAt S i k = S[i][k] := by
  simp [sAt, List.getD, hi, hk]
/-- The greatest totals. -/
def tot (s : Nat → Nat → Int) (n m i k : Nat) : Int :=
  if h : i < n ∧ k < m then max (max (tot s n m (i + 1) k) (tot s n m i (k + 1))) (if s i k < 400 then -1 else s i k + tot s n m (i + 1) (k + 1)) else 0
termination_by (n - i) + (m - k)
theorem tot_in {s : Nat → Nat → Int} {n m i k : Nat} (hi : i < n) (hk : k < m) : tot s n m i k = max (max (tot s n m (i + 1) k) (tot s n m i (k + 1))) (if s i k < 400 then -1 else s i k + tot s n m (i + 1) (k + 1)) := by
  rw [tot, dif_pos ⟨hi, hk⟩]
theorem tot_out {s : Nat → Nat → Int} {n m i k : Nat} (h : ¬ (i < n ∧ k < m)) : tot s n m i k = 0 := by rw [tot, dif_neg h]
theorem tot_bound {s : Nat → Nat → Int} {n m : Nat} (hs : ∀ i k, i < n → k < m → s i k ≤ 1000) : ∀ (q i k : Nat), (n - i) + (m - k) ≤ q → 0 ≤ tot s n m i k ∧ tot s n m i k ≤ 1000 * ((n - i : Nat) : Int)
  | 0, i, k, h => by rw [tot_out (by omega)]; omega
  | q + 1, i, k, h => by
    by_cases hik : i < n ∧ k < m
    · rw [tot_in hik.1 hik.2]; have h1 := tot_bound hs q (i + 1) k (by omega); have h2 := tot_bound hs q i (k + 1) (by omega); have h3 := tot_bound hs q (i + 1) (k + 1) (by omega); have h4 := hs i k hik.1 hik.2
      split <;> omega
    rw [tot_out hik]; omega
structure MatchD where
  a : Int
  b : Int
  score : Int
def MatchD.dat (x : MatchD) : List Dat := [li x.a, li x.b, li x.score]
theorem match_row (G : GH) (x : MatchD) : RepRow G x.dat [vi x.a, vi x.b, vi x.score] := by
  simp only [MatchD.dat, RepRow]
  exact ⟨_, _, rfl, by simp [RepV, Value.oneCell'], _, _, rfl, by simp [RepV, Value.oneCell'], _, _, rfl, by simp [RepV, Value.oneCell'], rfl⟩
theorem match_of {G : GH} {x : MatchD} {cs : List Value} (h : RepRow G x.dat cs) : cs = [vi x.a, vi x.b, vi x.score] := by
  simp only [MatchD.dat, RepRow, RepV] at h
  obtain ⟨v1, _, rfl, ⟨rfl, -⟩, v2, _, rfl, ⟨rfl, -⟩, v3, _, rfl, ⟨rfl, -⟩, rfl⟩ := h
  rfl
def withS (s : Nat → Nat → Int) (n m i k : Nat) : Int := if s i k < 400 then -1 else s i k + tot s n m (i + 1) (k + 1)
/-- The matching from two elements on. -/
def bestS (s : Nat → Nat → Int) (n m i k : Nat) : List MatchD :=
  if h : i < n ∧ k < m then
    if tot s n m i k = withS s n m i k then ⟨i, k, s i k⟩ :: bestS s n m (i + 1) (k + 1)
    else if tot s n m i k = tot s n m (i + 1) k then bestS s n m (i + 1) k else bestS s n m i (k + 1)
  else []
termination_by (n - i) + (m - k)
theorem bestS_len (s : Nat → Nat → Int) (n m : Nat) : ∀ (q i k : Nat), (n - i) + (m - k) ≤ q → (bestS s n m i k).length ≤ n - i
  | 0, i, k, h => by rw [bestS, dif_neg (by omega)]; simp
  | q + 1, i, k, h => by
    rw [bestS]
    split
    · rename_i hik
      split
      · have := bestS_len s n m q (i + 1) (k + 1) (by omega); simp only [List.length_cons]; omega
      split
      · have := bestS_len s n m q (i + 1) k (by omega); omega
      exact bestS_len s n m q i (k + 1) (by omega)
    simp
theorem idx_inj {W i k i' k' : Nat} (hk : k < W) (hk' : k' < W) (h : i * W + k = i' * W + k') : i = i' ∧ k = k' := by
  have h1 := congrArg (· / W) h; have h2 := congrArg (· % W) h
  have hW : 0 < W := by omega
  have e1 : ∀ a b : Nat, b < W → (a * W + b) / W = a := fun a b hb => by rw [Nat.mul_comm, Nat.mul_add_div hW, Nat.div_eq_of_lt hb, Nat.add_zero]
  have e2 : ∀ a b : Nat, b < W → (a * W + b) % W = b := fun a b hb => by rw [Nat.mul_comm, Nat.mul_add_mod, Nat.mod_eq_of_lt hb]
  simp only [e1 _ _ hk, e1 _ _ hk'] at h1
  simp only [e2 _ _ hk, e2 _ _ hk'] at h2
  exact ⟨h1, h2⟩
/-- The table as it lies in memory: rows into one block. -/
structure TabG (G : GH) (bs bt bm bf : Nat) (S : List (List Int)) (m : Nat) : Prop where
  sc : ∃ A c, gcell G bs 0 = some (.slice A S.length c) ∧ RepV G (.sl 1 (S.map rowDat)) (.slice A S.length c)
  wid : ∀ r ∈ S, r.length = m
  tb : gcell G bt 0 = some (.slice (some ⟨bm, 0, none⟩) (S.length + 1) (S.length + 1))
  rows : ∀ i, i ≤ S.length → gcell G bm i = some (.slice (some ⟨bf, i * (m + 1), none⟩) (m + 1) ((S.length + 1) * (m + 1) - i * (m + 1)))
  small : S.length ≤ 1024 ∧ m ≤ 1024
  ok : ∀ i k, i < S.length → k < m → 0 ≤ sAt S i k ∧ sAt S i k ≤ 1000
theorem TabG.mono {G G' : GH} {bs bt bm bf : Nat} {S : List (List Int)} {m : Nat} (h : TabG G bs bt bm bf S m) (hm : ∀ b o, G b = some o → G' b = some o) : TabG G' bs bt bm bf S m := by
  obtain ⟨A, c, h1, h2⟩ := h.sc; exact ⟨⟨A, c, gcell_mono hm h1, h2.mono hm⟩, h.wid, gcell_mono hm h.tb, fun i hi => gcell_mono hm (h.rows i hi), h.small, h.ok⟩
abbrev bF (b : Nat) (fl : List Int) : Nat × Obj := (b, .cells (fl.map vi).toArray 3 (0, 0))
theorem fl_get {fl : List Int} {o : Nat} {z : Int} (h : fl[o]? = some z) : (fl.map vi).toArray[o]? = some (vi z) := by simp [h]
set_option maxHeartbeats 1000000 in
theorem with_spec {G : GH} {w0 : World} {Lx : OL} {bs bt bm bf m i k : Nat} {S : List (List Int)} {fl : List Int} {z : Int} (hT : TabG G bs bt bm bf S m) (hO : Owns G (bF bf fl :: Lx) w0) (hi : i < S.length) (hk : k < m) (hz : fl[(i + 1) * (m + 1) + (k + 1)]? = some z) (hzb : 0 ≤ z ∧ z ≤ 10000000) :
    CallV Tryd.prog (.func (.func 22) #[] #[.pointer (some ⟨bs, 0, none⟩), .pointer (some ⟨bt, 0, none⟩)]) [vi i, vi k] w0 (RetL w0 G (bF bf fl :: Lx) fun u G' L' => u = vi (if sAt S i k < 400 then -1 else sAt S i k + z) ∧ L' = bF bf fl :: Lx) := by
  refine callV_func (caps := [.pointer (some ⟨bs, 0, none⟩), .pointer (some ⟨bt, 0, none⟩)]) (args := [vi i, vi k]) en22bst ?_; obtain ⟨A, c, hs1, hs2⟩ := hT.sc; obtain ⟨b, o, bA, bc, rfl, g1, g2⟩ := mat_row hs2 hi; have hwi := hT.wid _ (List.getElem_mem hi); obtain ⟨b2, o2, rfl, g3⟩ := num_at g2 (show k < S[i].length by omega); have ht := hT.tb; have hr := hT.rows (i + 1) (by omega); have hok := hT.ok i k hi hk; have hsm := hT.small; rw [← sAt_eq hi (by omega)] at g3; rw [hwi] at g1 g2; refine enterL (N := 32) (T := [(0, _), (1, _), (2, _), (3, _)]) Tryd.func22 rfl Tryd.ntmps22 rfl rfl hO ?_; intro a H; refine c_seq (fun _ hK1 => ?_); refine c_region ?_; refine s_assign H wn rfl rfl ?_; clear H; intro a H; refine wl_nil ?_; refine hK1 _ _ ?_; clear hK1; refine c_seq (fun _ hK2 => ?_); refine c_seq (fun _ hK3 => ?_); refine c_region ?_; refine s_load ty23bst H wn rfl (H.hp.gcell (by assumption)) rfl ?_; clear H; intro a H; refine s_move H wn rfl rfl ?_; clear H; intro a H; refine s_index un23bst ty32bst _ H wn rfl rfl rfl (by first | assumption | omega) rfl ?_; clear H; intro a H; refine s_load ty32bst H wn rfl (H.hp.gcell (by assumption)) rfl ?_; clear H; intro a H; refine s_move H wn rfl rfl ?_; clear H; intro a H; refine s_index un32bst ty3bst _ H wn rfl rfl rfl (by first | assumption | omega) rfl ?_; clear H; intro a H; refine s_load ty3bst H wn rfl (H.hp.gcell (by assumption)) rfl ?_; clear H; intro a H; refine s_cmp H wn rfl rfl rfl rfl ?_; clear H; intro a H; refine wl_nil ?_; refine hK3 _ _ ?_; clear hK3; refine c_cond H rfl ?_ ?_
  · intro h14
    try have p14 := of_decide_eq_true h14
    refine c_seq (fun _ hK4 => ?_); refine c_region ?_; refine s_assign H wn rfl rfl ?_; clear H; intro a H; refine wl_nil ?_; refine hK4 _ _ ?_; clear hK4; refine c_ret ?_; refine (leave1 H Tryd.results22 (.cons (rv_tmp H rfl) .nil) ?_).1; exact H.hp.retL ⟨by rw [if_pos p14], rfl⟩
  intro h14
  try have p14 := of_decide_eq_false h14
  refine c_skip ?_; refine hK2 _ _ ?_; clear hK2; refine c_seq (fun _ hK5 => ?_); have H := H.sub (T' := [(0, _), (1, _), (2, _), (3, _)]) ⟨rfl, rfl, rfl, rfl, trivial⟩
  have hprm3 : ∀ (ix_ : Nat) (v : Value) (G G' : GH), (∀ k o, G k = some o → G' k = some o) → (fun (ix_ : Nat) (v : Value) (G : GH) => match ix_ with | 0 => v = .slice (some ⟨b, o, none⟩) S.length c | 1 => v = vi i | 2 => v = .pointer (some ⟨b, o + i * 1, none⟩) | 3 => v = .slice (some ⟨b2, o2, none⟩) m bc | 4 => v = vi k | 5 => v = .pointer (some ⟨b2, o2 + k * 1, none⟩) | 6 => v = vi (sAt S i k) | 7 => v = .slice (some ⟨bm, 0, none⟩) (S.length + 1) (S.length + 1) | 8 => v = vi i | 9 => v = vi ((i : Int) + 1) | 10 => v = .pointer (some ⟨bm, 0 + (i + 1) * 1, none⟩) | 11 => v = .slice (some ⟨bf, (i + 1) * (m + 1), none⟩) (m + 1) ((S.length + 1) * (m + 1) - (i + 1) * (m + 1)) | 12 => v = vi k | 13 => v = vi ((k : Int) + 1) | 14 => v = .pointer (some ⟨bf, (i + 1) * (m + 1) + (k + 1) * 1, none⟩) | 15 => v = vi z | 16 => v = vi (sAt S i k + z) | 17 => v = vi (sAt S i k + z) | _ => True) ix_ v G → (fun (ix_ : Nat) (v : Value) (G : GH) => match ix_ with | 0 => v = .slice (some ⟨b, o, none⟩) S.length c | 1 => v = vi i | 2 => v = .pointer (some ⟨b, o + i * 1, none⟩) | 3 => v = .slice (some ⟨b2, o2, none⟩) m bc | 4 => v = vi k | 5 => v = .pointer (some ⟨b2, o2 + k * 1, none⟩) | 6 => v = vi (sAt S i k) | 7 => v = .slice (some ⟨bm, 0, none⟩) (S.length + 1) (S.length + 1) | 8 => v = vi i | 9 => v = vi ((i : Int) + 1) | 10 => v = .pointer (some ⟨bm, 0 + (i + 1) * 1, none⟩) | 11 => v = .slice (some ⟨bf, (i + 1) * (m + 1), none⟩) (m + 1) ((S.length + 1) * (m + 1) - (i + 1) * (m + 1)) | 12 => v = vi k | 13 => v = vi ((k : Int) + 1) | 14 => v = .pointer (some ⟨bf, (i + 1) * (m + 1) + (k + 1) * 1, none⟩) | 15 => v = vi z | 16 => v = vi (sAt S i k + z) | 17 => v = vi (sAt S i k + z) | _ => True) ix_ v G' := by
    intro ix_ v G G' hm h
    match ix_, h with
    | 0, h => exact h
    | 1, h => exact h
    | 2, h => exact h
    | 3, h => exact h
    | 4, h => exact h
    | 5, h => exact h
    | 6, h => exact h
    | 7, h => exact h
    | 8, h => exact h
    | 9, h => exact h
    | 10, h => exact h
    | 11, h => exact h
    | 12, h => exact h
    | 13, h => exact h
    | 14, h => exact h
    | 15, h => exact h
    | 16, h => exact h
    | 17, h => exact h
    | _ + 18, h => exact trivial
  refine c_drawI (hmxb) [[], [], [0, 1], [0, 1, 2], [], [0, 1, 2, 3, 4], [0, 1, 2, 3, 4, 5], [], [], [8], [7, 8, 9], [7, 8, 9, 10], [], [12], [7, 8, 9, 10, 11, 12, 13], [7, 8, 9, 10, 11, 12, 13, 14], [0, 1, 2, 3, 4, 5, 6, 7, 8, 9, 10, 11, 12, 13, 14, 15], [0, 1, 2, 3, 4, 5, 6, 7, 8, 9, 10, 11, 12, 13, 14, 15, 16]] [] (by kernel_rfl) (by kernel_rfl) (fun (ix_ : Nat) (v : Value) (G : GH) => match ix_ with | 0 => v = .slice (some ⟨b, o, none⟩) S.length c | 1 => v = vi i | 2 => v = .pointer (some ⟨b, o + i * 1, none⟩) | 3 => v = .slice (some ⟨b2, o2, none⟩) m bc | 4 => v = vi k | 5 => v = .pointer (some ⟨b2, o2 + k * 1, none⟩) | 6 => v = vi (sAt S i k) | 7 => v = .slice (some ⟨bm, 0, none⟩) (S.length + 1) (S.length + 1) | 8 => v = vi i | 9 => v = vi ((i : Int) + 1) | 10 => v = .pointer (some ⟨bm, 0 + (i + 1) * 1, none⟩) | 11 => v = .slice (some ⟨bf, (i + 1) * (m + 1), none⟩) (m + 1) ((S.length + 1) * (m + 1) - (i + 1) * (m + 1)) | 12 => v = vi k | 13 => v = vi ((k : Int) + 1) | 14 => v = .pointer (some ⟨bf, (i + 1) * (m + 1) + (k + 1) * 1, none⟩) | 15 => v = vi z | 16 => v = vi (sAt S i k + z) | 17 => v = vi (sAt S i k + z) | _ => True) hprm3 H ?_ ?_
  · clear H; refine (allI_cons ?_ (allI_cons ?_ (allI_cons ?_ (allI_cons ?_ (allI_cons ?_ (allI_cons ?_ (allI_cons ?_ (allI_cons ?_ (allI_cons ?_ (allI_cons ?_ (allI_cons ?_ (allI_cons ?_ (allI_cons ?_ (allI_cons ?_ (allI_cons ?_ (allI_cons ?_ (allI_cons ?_ (allI_cons ?_ allI_nil))))))))))))))))))
    · intro Sd_ a w G1 _ hSi hc hG HT hv; have H := HT; clear hSi; have Hb := H.full; have H := Hb; clear hc; refine s_load ty23bst H wn rfl (H.hp.gcell (gcell_mono hG hs1)) rfl ?_; clear H; intro a H; refine wl_nil ⟨rfl, ?_⟩; exact draw_val (by kernel_rfl) hprm3 rfl rfl HT Hb hG hv (fun _ _ h => h) (rfl) H
    · intro Sd_ a w G1 _ hSi hc hG HT hv; have H := HT; clear hSi; have Hb := H.full; have H := Hb; clear hc; refine s_move H wn rfl rfl ?_; clear H; intro a H; refine wl_nil ⟨rfl, ?_⟩; exact draw_val (by kernel_rfl) hprm3 rfl rfl HT Hb hG hv (fun _ _ h => h) (rfl) H
    · intro Sd_ a w G1 _ hSi hc hG HT hv; have H := HT; clear hSi; obtain ⟨u15, hu15, hp15⟩ := hv 0 15 (hc 0 (by decide)) rfl; obtain rfl : u15 = .slice (some ⟨b, o, none⟩) S.length c := hp15; have H := H.addS hu15; obtain ⟨u16, hu16, hp16⟩ := hv 1 16 (hc 1 (by decide)) rfl; obtain rfl : u16 = vi i := hp16; have H := H.addS hu16; have Hb := H.full; have H := Hb; clear hc; refine s_index un23bst ty32bst _ H wn rfl rfl rfl (by first | assumption | omega) rfl ?_; clear H; intro a H; refine wl_nil ⟨rfl, ?_⟩; exact draw_val (by kernel_rfl) hprm3 rfl rfl HT Hb hG hv (fun _ _ h => h) (rfl) H
    · intro Sd_ a w G1 _ hSi hc hG HT hv; have H := HT; clear hSi; obtain ⟨u17, hu17, hp17⟩ := hv 2 17 (hc 2 (by decide)) rfl; obtain rfl : u17 = .pointer (some ⟨b, o + i * 1, none⟩) := hp17; have H := H.addS hu17; have Hb := H.full; have H := Hb; clear hc; refine s_load ty32bst H wn rfl (H.hp.gcell (gcell_mono hG g1)) rfl ?_; clear H; intro a H; refine wl_nil ⟨rfl, ?_⟩; exact draw_val (by kernel_rfl) hprm3 rfl rfl HT Hb hG hv (fun _ _ h => h) (rfl) H
    · intro Sd_ a w G1 _ hSi hc hG HT hv; have H := HT; clear hSi; have Hb := H.full; have H := Hb; clear hc; refine s_move H wn rfl rfl ?_; clear H; intro a H; refine wl_nil ⟨rfl, ?_⟩; exact draw_val (by kernel_rfl) hprm3 rfl rfl HT Hb hG hv (fun _ _ h => h) (rfl) H
    · intro Sd_ a w G1 _ hSi hc hG HT hv; have H := HT; clear hSi; obtain ⟨u18, hu18, hp18⟩ := hv 3 18 (hc 3 (by decide)) rfl; obtain rfl : u18 = .slice (some ⟨b2, o2, none⟩) m bc := hp18; have H := H.addS hu18; obtain ⟨u19, hu19, hp19⟩ := hv 4 19 (hc 4 (by decide)) rfl; obtain rfl : u19 = vi k := hp19; have H := H.addS hu19; have Hb := H.full; have H := Hb; clear hc; refine s_index un32bst ty3bst _ H wn rfl rfl rfl (by first | assumption | omega) rfl ?_; clear H; intro a H; refine wl_nil ⟨rfl, ?_⟩; exact draw_val (by kernel_rfl) hprm3 rfl rfl HT Hb hG hv (fun _ _ h => h) (rfl) H
    · intro Sd_ a w G1 _ hSi hc hG HT hv; have H := HT; clear hSi; obtain ⟨u20, hu20, hp20⟩ := hv 5 20 (hc 5 (by decide)) rfl; obtain rfl : u20 = .pointer (some ⟨b2, o2 + k * 1, none⟩) := hp20; have H := H.addS hu20; have Hb := H.full; have H := Hb; clear hc; refine s_load ty3bst H wn rfl (H.hp.gcell (gcell_mono hG g3)) rfl ?_; clear H; intro a H; refine wl_nil ⟨rfl, ?_⟩; exact draw_val (by kernel_rfl) hprm3 rfl rfl HT Hb hG hv (fun _ _ h => h) (rfl) H
    · intro Sd_ a w G1 _ hSi hc hG HT hv; have H := HT; clear hSi; have Hb := H.full; have H := Hb; clear hc; refine s_load ty23bst H wn rfl (H.hp.gcell (gcell_mono hG ht)) rfl ?_; clear H; intro a H; refine wl_nil ⟨rfl, ?_⟩; exact draw_val (by kernel_rfl) hprm3 rfl rfl HT Hb hG hv (fun _ _ h => h) (rfl) H
    · intro Sd_ a w G1 _ hSi hc hG HT hv; have H := HT; clear hSi; have Hb := H.full; have H := Hb; clear hc; refine s_move H wn rfl rfl ?_; clear H; intro a H; refine wl_nil ⟨rfl, ?_⟩; exact draw_val (by kernel_rfl) hprm3 rfl rfl HT Hb hG hv (fun _ _ h => h) (rfl) H
    · intro Sd_ a w G1 _ hSi hc hG HT hv; have H := HT; clear hSi; obtain ⟨u23, hu23, hp23⟩ := hv 8 23 (hc 8 (by decide)) rfl; obtain rfl : u23 = vi i := hp23; have H := H.addS hu23; have Hb := H.full; have H := Hb; clear hc; refine s_add _ H wn rfl rfl rfl (by omega) (by omega) rfl ?_; clear H; intro a H; refine wl_nil ⟨rfl, ?_⟩; exact draw_val (by kernel_rfl) hprm3 rfl rfl HT Hb hG hv (fun _ _ h => h) (rfl) H
    · intro Sd_ a w G1 _ hSi hc hG HT hv; have H := HT; clear hSi; obtain ⟨u22, hu22, hp22⟩ := hv 7 22 (hc 7 (by decide)) rfl; obtain rfl : u22 = .slice (some ⟨bm, 0, none⟩) (S.length + 1) (S.length + 1) := hp22; have H := H.addS hu22; obtain ⟨u24, hu24, hp24⟩ := hv 9 24 (hc 9 (by decide)) rfl; obtain rfl : u24 = vi ((i : Int) + 1) := hp24; have H := H.addS hu24; have Hb := H.full; have H := Hb; clear hc; refine s_index un23bst ty32bst (i + 1) H wn rfl rfl (by omega) (by omega) rfl ?_; clear H; intro a H; refine wl_nil ⟨rfl, ?_⟩; exact draw_val (by kernel_rfl) hprm3 rfl rfl HT Hb hG hv (fun _ _ h => h) (rfl) H
    · intro Sd_ a w G1 _ hSi hc hG HT hv; have H := HT; clear hSi; obtain ⟨u25, hu25, hp25⟩ := hv 10 25 (hc 10 (by decide)) rfl; obtain rfl : u25 = .pointer (some ⟨bm, 0 + (i + 1) * 1, none⟩) := hp25; have H := H.addS hu25; have Hb := H.full; have H := Hb; clear hc; refine s_load ty32bst H wn rfl (H.hp.gcell (gcell_mono hG (by rw [Nat.zero_add, Nat.mul_one]; exact hr))) rfl ?_; clear H; intro a H; refine wl_nil ⟨rfl, ?_⟩; exact draw_val (by kernel_rfl) hprm3 rfl rfl HT Hb hG hv (fun _ _ h => h) (rfl) H
    · intro Sd_ a w G1 _ hSi hc hG HT hv; have H := HT; clear hSi; have Hb := H.full; have H := Hb; clear hc; refine s_move H wn rfl rfl ?_; clear H; intro a H; refine wl_nil ⟨rfl, ?_⟩; exact draw_val (by kernel_rfl) hprm3 rfl rfl HT Hb hG hv (fun _ _ h => h) (rfl) H
    · intro Sd_ a w G1 _ hSi hc hG HT hv; have H := HT; clear hSi; obtain ⟨u27, hu27, hp27⟩ := hv 12 27 (hc 12 (by decide)) rfl; obtain rfl : u27 = vi k := hp27; have H := H.addS hu27; have Hb := H.full; have H := Hb; clear hc; refine s_add _ H wn rfl rfl rfl (by omega) (by omega) rfl ?_; clear H; intro a H; refine wl_nil ⟨rfl, ?_⟩; exact draw_val (by kernel_rfl) hprm3 rfl rfl HT Hb hG hv (fun _ _ h => h) (rfl) H
    · intro Sd_ a w G1 _ hSi hc hG HT hv; have H := HT; clear hSi; obtain ⟨u26, hu26, hp26⟩ := hv 11 26 (hc 11 (by decide)) rfl; obtain rfl : u26 = .slice (some ⟨bf, (i + 1) * (m + 1), none⟩) (m + 1) ((S.length + 1) * (m + 1) - (i + 1) * (m + 1)) := hp26; have H := H.addS hu26; obtain ⟨u28, hu28, hp28⟩ := hv 13 28 (hc 13 (by decide)) rfl; obtain rfl : u28 = vi ((k : Int) + 1) := hp28; have H := H.addS hu28; have Hb := H.full; have H := Hb; clear hc; refine s_index un32bst ty3bst (k + 1) H wn rfl rfl (by omega) (by omega) rfl ?_; clear H; intro a H; refine wl_nil ⟨rfl, ?_⟩; exact draw_val (by kernel_rfl) hprm3 rfl rfl HT Hb hG hv (fun _ _ h => h) (rfl) H
    · intro Sd_ a w G1 _ hSi hc hG HT hv; have H := HT; clear hSi; obtain ⟨u29, hu29, hp29⟩ := hv 14 29 (hc 14 (by decide)) rfl; obtain rfl : u29 = .pointer (some ⟨bf, (i + 1) * (m + 1) + (k + 1) * 1, none⟩) := hp29; have H := H.addS hu29; have Hb := H.full; have H := Hb; clear hc; refine s_load ty3bst H wn rfl (H.hp.ocell 0 rfl (by rw [Nat.mul_one]; exact fl_get hz)) rfl ?_; clear H; intro a H; refine wl_nil ⟨rfl, ?_⟩; exact draw_val (by kernel_rfl) hprm3 rfl rfl HT Hb hG hv (fun _ _ h => h) (rfl) H
    · intro Sd_ a w G1 _ hSi hc hG HT hv; have H := HT; clear hSi; obtain ⟨u21, hu21, hp21⟩ := hv 6 21 (hc 6 (by decide)) rfl; obtain rfl : u21 = vi (sAt S i k) := hp21; have H := H.addS hu21; obtain ⟨u30, hu30, hp30⟩ := hv 15 30 (hc 15 (by decide)) rfl; obtain rfl : u30 = vi z := hp30; have H := H.addS hu30; have Hb := H.full; have H := Hb; clear hc; refine s_add _ H wn rfl rfl rfl (by omega) (by omega) rfl ?_; clear H; intro a H; refine wl_nil ⟨rfl, ?_⟩; exact draw_val (by kernel_rfl) hprm3 rfl rfl HT Hb hG hv (fun _ _ h => h) (rfl) H
    intro Sd_ a w G1 _ hSi hc hG HT hv; have H := HT; clear hSi; obtain ⟨u31, hu31, hp31⟩ := hv 16 31 (hc 16 (by decide)) rfl; obtain rfl : u31 = vi (sAt S i k + z) := hp31; have H := H.addS hu31; have Hb := H.full; have H := Hb; clear hc; refine s_assign H wn rfl rfl ?_; clear H; intro a H; refine wl_nil ⟨rfl, ?_⟩; exact draw_val (by kernel_rfl) hprm3 rfl rfl HT Hb hG hv (fun _ _ h => h) (rfl) H
  clear H; intro a w G hGm3 H hv; obtain ⟨u6, hu6, hp6⟩ := hv 17 6 (by decide) rfl; obtain rfl : u6 = vi (sAt S i k + z) := hp6; have H := H.addS hu6; clear hv; refine wl_nil ⟨rfl, ?_⟩; refine hK5 _ _ ?_; clear hK5; refine c_ret ?_; refine (leave1 H Tryd.results22 (.cons (rv_tmp H rfl) .nil) ?_).1; exact H.hp.retL ⟨by rw [if_neg p14], rfl⟩
end Go.Proofs.YtpmcdlhhfbobfaaDoor
