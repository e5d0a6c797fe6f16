/-
  The similarity of tokens: it is the same both ways, at most 1000, and 1000 for equal strings.
-/
import Derived.Test.YtpmcdlhhfbobfaaDoorBsm
namespace Go.Proofs.YtpmcdlhhfbobfaaDoor
open Go.RowKit
/-! ## Keys tell texts apart -/
theorem keyI_some {x : ByteArray} : ∀ {l : List ByteArray} {i m : Nat}, keyI x i l = some m → ∃ n, m = i + n + 1 ∧ l[n]? = some x
  | [], _, _, h => by cases h
  | y :: l, i, m, h => by
    rw [keyI] at h
    split at h
    · rename_i e
      injection h with h
      exact ⟨0, by omega, by simp [e]⟩
    obtain ⟨n, h1, h2⟩ := keyI_some h; exact ⟨n + 1, by omega, by simpa using h2⟩
theorem keyI_none {x : ByteArray} : ∀ {l : List ByteArray} {i : Nat}, keyI x i l = none → x ∉ l
  | [], _, _ => by simp
  | y :: l, i, h => by
    rw [keyI] at h
    split at h
    · cases h
    rename_i e
    intro hm
    rcases List.mem_cons.1 hm with rfl | hm
    · exact e rfl
    exact keyI_none h hm
/-- A key is the place of its text. -/
theorem key_place {l : List ByteArray} (hl : l.Nodup) (x : ByteArray) : (keyK l x).Nodup ∧ (∀ (n : Nat) (y : ByteArray), l[n]? = some y → (keyK l x)[n]? = some y) ∧ ∃ n, keyN l x = n + 1 ∧ (keyK l x)[n]? = some x := by
  unfold keyN keyK
  cases h : keyI x 0 l with
  | some m =>
    obtain ⟨n, h1, h2⟩ := keyI_some h; exact ⟨by simpa using hl, fun _ _ h => by simpa using h, n, by simp; omega, by simpa using h2⟩
  | none =>
    have hx := keyI_none h; refine ⟨?_, fun n y hy => ?_, l.length, by simp, by simp⟩
    · simp only [Option.isSome_none, Bool.false_eq_true, if_false]
      rw [List.nodup_append]; exact ⟨hl, by simp, fun a ha b hb e => by rw [List.mem_singleton] at hb; subst hb; subst e; exact hx ha⟩
    simp only [Option.isSome_none, Bool.false_eq_true, if_false]
    rw [List.getElem?_append_left (List.getElem?_eq_some_iff.1 hy).1]; exact hy
/-- What the tokens of a text are: each with the place of its text among the keys. -/
structure TkOk (l : List (TkD × ByteArray)) (o : List TokD) (K : List ByteArray) : Prop where
  len : o.length = l.length
  at_ : ∀ i (h : i < l.length) (h2 : i < o.length), ∃ n : Nat, o[i].key = (n : Int) + 1 ∧ K[n]? = some l[i].2 ∧ o[i].weight = wtK l[i].1
theorem tokP_keys (l : List (TkD × ByteArray)) (ks : List ByteArray) (hk : ks.Nodup) : ∀ k, k ≤ l.length → (tokP (l.take k) ks).2.Nodup ∧ (∀ (n : Nat) (y : ByteArray), ks[n]? = some y → (tokP (l.take k) ks).2[n]? = some y) ∧ TkOk (l.take k) (tokP (l.take k) ks).1 (tokP (l.take k) ks).2
  | 0, _ => ⟨by simpa [tokP] using hk, fun n y h => by simpa [tokP] using h, by simp [tokP], fun i h => by simp at h⟩
  | k + 1, h => by
    obtain ⟨h1, h2, h3⟩ := tokP_keys l ks hk k (by omega); have hp := key_place h1 l[k].2; obtain ⟨n, hn1, hn2⟩ := hp.2.2; rw [tokP_succ (by omega)]; refine ⟨hp.1, fun n y hy => hp.2.1 n y (h2 n y hy), ?_, fun i hi hi2 => ?_⟩
    · have := h3.len
      simp only [tokStep, List.length_append, List.length_singleton, List.length_take] at *; omega
    have hl := h3.len
    simp only [tokStep] at hi2 ⊢
    rw [List.length_take] at hi hl
    by_cases e : i < k
    · obtain ⟨q, q1, q2, q3⟩ := h3.at_ i (by rw [List.length_take]; omega) (by omega); refine ⟨q, ?_, ?_, ?_⟩
      · rw [List.getElem_append_left (by omega)]; exact q1
      · rw [List.getElem_take]; rw [List.getElem_take] at q2; exact hp.2.1 _ _ q2
      rw [List.getElem_append_left (by omega), List.getElem_take]; rw [List.getElem_take] at q3; exact q3
    have hik : i = k := by omega
    subst hik; refine ⟨n, ?_, ?_, ?_⟩
    · rw [List.getElem_append_right (by omega)]; simp [hn1]
    · rw [List.getElem_take]; exact hn2
    rw [List.getElem_append_right (by omega), List.getElem_take]; simp
theorem two_keys (a b : ByteArray) : ∃ K : List ByteArray, K.Nodup ∧ TkOk (tkL a) (twoA a) K ∧ TkOk (tkL b) (twoB a b) K := by
  obtain ⟨h1, h2, h3⟩ := tokP_keys (tkL a) [] List.nodup_nil _ (Nat.le_refl _); rw [List.take_length] at h1 h3; obtain ⟨g1, g2, g3⟩ := tokP_keys (tkL b) (tokP (tkL a) []).2 h1 _ (Nat.le_refl _); rw [List.take_length] at g1 g2 g3; exact ⟨_, g1, ⟨h3.len, fun i hi hi2 => by obtain ⟨n, q1, q2, q3⟩ := h3.at_ i hi hi2; exact ⟨n, q1, g2 _ _ q2, q3⟩⟩, g3⟩
theorem nodup_idx {K : List ByteArray} (h : K.Nodup) {n m : Nat} {x : ByteArray} (h1 : K[n]? = some x) (h2 : K[m]? = some x) : n = m := by
  obtain ⟨p1, e1⟩ := List.getElem?_eq_some_iff.1 h1; obtain ⟨p2, e2⟩ := List.getElem?_eq_some_iff.1 h2; exact (List.getElem_inj h).1 (e1.trans e2.symm)
theorem key_iff {la lb : List (TkD × ByteArray)} {x y : List TokD} {K : List ByteArray} (hK : K.Nodup) (hx : TkOk la x K) (hy : TkOk lb y K) {i k : Nat} (hi : i < la.length) (hk : k < lb.length) : (x[i]'(by rw [hx.len]; exact hi)).key = (y[k]'(by rw [hy.len]; exact hk)).key ↔ la[i].2 = lb[k].2 := by
  obtain ⟨n, n1, n2, -⟩ := hx.at_ i hi (by rw [hx.len]; exact hi); obtain ⟨m, m1, m2, -⟩ := hy.at_ k hk (by rw [hy.len]; exact hk); rw [n1, m1]
  constructor
  · intro e
    have : n = m := by omega
    subst this; rw [n2] at m2; exact Option.some.inj m2
  intro e; rw [e] at n2; rw [nodup_idx hK n2 m2]
theorem sumW_tk {l : List (TkD × ByteArray)} {x : List TokD} {K : List ByteArray} (hx : TkOk l x K) : x.map (·.weight) = l.map fun q => wtK q.1 := by
  apply List.ext_getElem
  · simp [hx.len]
  intro i h1 h2; rw [List.length_map] at h1 h2; obtain ⟨-, -, -, q⟩ := hx.at_ i h2 h1
  simp [q]
theorem sumW_map : ∀ (x y : List TokD), x.map (·.weight) = y.map (·.weight) → sumW x = sumW y
  | [], [], _ => rfl
  | [], y :: ys, h => by simp at h
  | x :: xs, [], h => by simp at h
  | x :: xs, y :: ys, h => by
    simp only [List.map_cons, List.cons.injEq] at h
    rw [sumW, sumW, h.1, sumW_map xs ys h.2]
theorem sumW_append (x y : List TokD) : sumW (x ++ y) = sumW x + sumW y := by
  induction x with
  | nil => simp [sumW]
  | cons a x ih => simp only [List.cons_append, sumW, ih]; omega
/-! ## The score -/
theorem sol_zero {a b : List TokD} {k : Nat} (hk : ¬ k < b.length) : ∀ (q i : Nat), a.length - i ≤ q → sol a b i k = 0
  | 0, i, h => sol_out (by omega)
  | q + 1, i, h => by
    by_cases hi : i < a.length
    · rw [sol_end hi hk, sol_zero hk q (i + 1) (by omega)]
    exact sol_out hi
theorem sol_sym {a b c d : List TokD} (h1 : c.length = b.length) (h2 : d.length = a.length) (hk : ∀ i k (hi : i < a.length) (hk : k < b.length), a[i].key = b[k].key ↔ (c[k]'(by omega)).key = (d[i]'(by omega)).key)
    (hwc : ∀ k (hk : k < b.length), (c[k]'(by omega)).weight = b[k].weight) (hwd : ∀ i (hi : i < a.length), (d[i]'(by omega)).weight = a[i].weight) : ∀ (q i k : Nat), (a.length - i) + (b.length - k) ≤ q → sol a b i k = sol c d k i
  | 0, i, k, hq => by rw [sol_out (by omega), sol_out (by omega)]
  | q + 1, i, k, hq => by
    by_cases hi : i < a.length
    · by_cases hkb : k < b.length
      · rw [sol_in hi hkb, sol_in (show k < c.length by omega) (show i < d.length by omega)]; rw [sol_sym h1 h2 hk hwc hwd q (i + 1) k (by omega), sol_sym h1 h2 hk hwc hwd q i (k + 1) (by omega), sol_sym h1 h2 hk hwc hwd q (i + 1) (k + 1) (by omega)]
        have hw : wtT (c[k]'(by omega)) (d[i]'(by omega)) = wtT a[i] b[k] := by rw [wtT, wtT, hwc k hkb, hwd i hi]; omega
        rw [hw, Int.max_comm (sol c d k (i + 1)) (sol c d (k + 1) i)]
        by_cases e : a[i].key = b[k].key
        · have e2 := (hk i k hi hkb).1 e
          simp only [e, e2, true_and]
        have e2 : ¬ (c[k]'(by omega)).key = (d[i]'(by omega)).key := fun h => e ((hk i k hi hkb).2 h)
        simp only [e, e2, false_and]
      rw [sol_zero hkb _ i (Nat.le_refl _), sol_out (by omega)]
    rw [sol_out hi, sol_zero (by omega) _ k (Nat.le_refl _)]
theorem sumW_drop {x : List TokD} {i : Nat} (hi : i < x.length) : sumW (x.drop i) = x[i].weight + sumW (x.drop (i + 1)) := by
  rw [List.drop_eq_getElem_cons hi]; rfl
theorem sumW_pos {x : List TokD} (h : ∀ y ∈ x, 1 ≤ y.weight ∧ y.weight ≤ 1000) (i : Nat) : 0 ≤ sumW (x.drop i) := by
  have := sumW_in (x.drop i) (fun y hy => h y (List.mem_of_mem_drop hy)); omega
theorem sol_le {a b : List TokD} (ha : ∀ x ∈ a, 1 ≤ x.weight ∧ x.weight ≤ 1000) (hb : ∀ x ∈ b, 1 ≤ x.weight ∧ x.weight ≤ 1000) : ∀ (q i k : Nat), (a.length - i) + (b.length - k) ≤ q → sol a b i k ≤ sumW (a.drop i) ∧ sol a b i k ≤ sumW (b.drop k)
  | 0, i, k, hq => by rw [sol_out (by omega)]; exact ⟨sumW_pos ha i, sumW_pos hb k⟩
  | q + 1, i, k, hq => by
    have p1 := sumW_pos ha i; have p2 := sumW_pos hb k
    by_cases hi : i < a.length
    · by_cases hk : k < b.length
      · have e1 := sol_le ha hb q (i + 1) k (by omega); have e2 := sol_le ha hb q i (k + 1) (by omega); have e3 := sol_le ha hb q (i + 1) (k + 1) (by omega); have s1 := sumW_drop hi; have s2 := sumW_drop hk; have w1 := ha _ (List.getElem_mem hi); have w2 := hb _ (List.getElem_mem hk); rw [sol_in hi hk]
        unfold wtT
        split <;> omega
      rw [sol_zero hk _ i (Nat.le_refl _)]; exact ⟨p1, p2⟩
    rw [sol_out hi]; exact ⟨p1, p2⟩
theorem sol_same {a b : List TokD} (hl : b.length = a.length) (h : ∀ i (hi : i < a.length), a[i].key = (b[i]'(by omega)).key ∧ (b[i]'(by omega)).weight = a[i].weight) : ∀ (q i : Nat), a.length - i ≤ q → sumW (a.drop i) ≤ sol a b i i
  | 0, i, hq => by rw [sol_out (by omega), List.drop_eq_nil_of_le (by omega)]; exact Int.le_refl _
  | q + 1, i, hq => by
    by_cases hi : i < a.length
    · have e1 := sol_same hl h q (i + 1) (by omega); have hh := h i hi; rw [sumW_drop hi, sol_in hi (by omega)]
      have hw : wtT a[i] (b[i]'(by omega)) = a[i].weight := by rw [wtT, hh.2]; omega
      rw [hw]
      split
      · omega
      rename_i hn
      have hn2 : ¬ max (sol a b (i + 1) i) (sol a b i (i + 1)) ≤ sol a b (i + 1) (i + 1) + a[i].weight := fun h2 => hn ⟨hh.1, h2⟩
      omega
    rw [sol_out hi, List.drop_eq_nil_of_le (by omega)]; exact Int.le_refl _
/-! ## The similarity -/
def simS (a b : ByteArray) : Int := alnS (twoA a) (twoB a b)
theorem simS_sym (a b : ByteArray) : simS a b = simS b a := by
  obtain ⟨K, hK, hx, hy⟩ := two_keys a b; obtain ⟨K2, hK2, hx2, hy2⟩ := two_keys b a; have lx := hx.len; have ly := hy.len; have lx2 := hx2.len; have ly2 := hy2.len
  have hs : sol (twoA a) (twoB a b) 0 0 = sol (twoA b) (twoB b a) 0 0 := by
    refine sol_sym (by omega) (by omega) (fun i k hi hk => ?_) (fun k hk => ?_) (fun i hi => ?_) _ 0 0 (Nat.le_refl _)
    · rw [key_iff hK hx hy (show i < (tkL a).length by omega) (show k < (tkL b).length by omega), key_iff hK2 hx2 hy2 (show k < (tkL b).length by omega) (show i < (tkL a).length by omega)]; exact eq_comm
    · obtain ⟨-, -, -, q1⟩ := hx2.at_ k (by omega) (by omega); obtain ⟨-, -, -, q2⟩ := hy.at_ k (by omega) (by omega); rw [q1, q2]
    obtain ⟨-, -, -, q1⟩ := hy2.at_ i (by omega) (by omega); obtain ⟨-, -, -, q2⟩ := hx.at_ i (by omega) (by omega); rw [q1, q2]
  have hw : sumW (twoA a ++ twoB a b) = sumW (twoA b ++ twoB b a) := by
    rw [sumW_append, sumW_append, sumW_map _ _ ((sumW_tk hx).trans (sumW_tk hy2).symm), sumW_map _ _ ((sumW_tk hy).trans (sumW_tk hx2).symm)]
    omega
  rw [simS, simS, alnS, alnS, hs, hw]
theorem simS_in (a b : ByteArray) : 0 ≤ simS a b ∧ simS a b ≤ 1000 := by
  have h1 := sol_le (twoA_ok a) (twoB_ok a b) _ 0 0 (Nat.le_refl _); have h2 := sol_bound (twoA_ok a) (twoB_ok a b) _ 0 0 (Nat.le_refl _); rw [List.drop_zero, List.drop_zero] at h1; rw [simS, alnS]
  split
  · decide
  rename_i hne
  have hs := sumW_append (twoA a) (twoB a b)
  have hp : 0 < sumW (twoA a ++ twoB a b) := by omega
  refine ⟨Int.tdiv_nonneg (by omega) (by omega), ?_⟩; rw [Int.tdiv_eq_ediv_of_nonneg (by omega)]; have := Int.ediv_le_ediv hp (show 2000 * sol (twoA a) (twoB a b) 0 0 ≤ 1000 * sumW (twoA a ++ twoB a b) by omega)
  rwa [Int.mul_ediv_cancel _ (by omega)] at this
theorem simS_same (a : ByteArray) : simS a a = 1000 := by
  obtain ⟨K, hK, hx, hy⟩ := two_keys a a; have lx := hx.len; have ly := hy.len
  have hsame := sol_same (a := twoA a) (b := twoB a a) (by omega) (fun i hi => ⟨(key_iff hK hx hy (show i < (tkL a).length by omega) (show i < (tkL a).length by omega)).2 rfl, by
    obtain ⟨-, -, -, q1⟩ := hy.at_ i (by omega) (by omega); obtain ⟨-, -, -, q2⟩ := hx.at_ i (by omega) (by omega)
    rw [q1, q2]⟩) _ 0 (Nat.le_refl _)
  have h1 := sol_le (twoA_ok a) (twoB_ok a a) _ 0 0 (Nat.le_refl _); rw [List.drop_zero] at hsame; rw [List.drop_zero, List.drop_zero] at h1; have he : sumW (twoB a a) = sumW (twoA a) := sumW_map _ _ ((sumW_tk hy).trans (sumW_tk hx).symm); have hs := sumW_append (twoA a) (twoB a a); rw [simS, alnS]
  split
  · rfl
  rename_i hne
  have hp : 0 ≤ sumW (twoA a) := by have := sumW_pos (twoA_ok a) 0; rwa [List.drop_zero] at this
  rw [show sol (twoA a) (twoB a a) 0 0 = sumW (twoA a) by omega, hs, he]; rw [show 2000 * sumW (twoA a) = 1000 * (sumW (twoA a) + sumW (twoA a)) by omega]; exact Int.mul_tdiv_cancel _ (by omega)
end Go.Proofs.YtpmcdlhhfbobfaaDoor
