/-
  Strings that are valid: their units.
-/
import Derived.Test.YtpmcdlhhfbobfaaDoorUtf
namespace Go.Proofs.YtpmcdlhhfbobfaaDoor
open Go.RowKit
theorem vd_step {s : ByteArray} {i : Nat} (h : firstS s i < 0) (hi : i < s.size) : (decS s i).2.2 = true ∧ firstS s (i + (decS s i).2.1) < 0 := by
  rw [firstS, dif_pos hi] at h
  split at h
  · rename_i h2; exact ⟨h2, h⟩
  omega
theorem dec_in {s : ByteArray} {i : Nat} (h : firstS s i < 0) (hi : i < s.size) : 0 < (decS s i).2.1 ∧ i + (decS s i).2.1 ≤ s.size := by
  have h1 := (vd_step h hi).1; have h2 := (decS_size s i hi).2 h1
  omega
theorem validD_of {s : ByteArray} : ∀ (q i : Nat), s.size - i ≤ q → firstS s i < 0 → Go.Lib.validD (s.data.toList.drop i) = true
  | 0, i, hq, _ => by
    rw [List.drop_eq_nil_of_le (by have := Go.Lib.size_eq s; omega)]; rfl
  | q + 1, i, hq, h => by
    by_cases hi : i < s.size
    · have hne : s.data.toList.drop i ≠ [] := by
        intro e; have := congrArg List.length e; rw [List.length_drop, ← Go.Lib.size_eq] at this
        simp at this; omega
      have hs := vd_step h hi; have hd := dec_in h hi; have he := dec_eq hi hs.1; rw [Go.Lib.validD_step _ hne, Go.Lib.decodeL_drop, if_neg he.2.1, List.drop_drop, he.1]; exact validD_of q (i + (decS s i).2.1) (by omega) hs.2
    rw [List.drop_eq_nil_of_le (by have := Go.Lib.size_eq s; omega)]; rfl
theorem rn_in {s : ByteArray} {f i : Nat} (hf : s.size - i ≤ f) (hi : i < s.size) : rnF s f i = (i, (Utf8.decode s i).1) :: rnF s (f - 1) (i + (Utf8.decode s i).2) := by
  match f, hf with
  | 0, hf => omega
  | f + 1, _ => rw [rnF, if_pos hi]; rfl
theorem rn_end {s : ByteArray} {f i : Nat} (hi : ¬ i < s.size) : rnF s f i = [] := by
  match f with
  | 0 => rfl
  | f + 1 => rw [rnF, if_neg hi]
theorem rn_pt {s : ByteArray} : ∀ (q i f g : Nat), s.size - i ≤ q → s.size - i ≤ f → s.size - i ≤ g → firstS s i < 0 → (rnF s f i).length = (ptF s g i).length
  | 0, i, f, g, hq, _, _, _ => by rw [rn_end (by omega), ptF_end (by omega)]; rfl
  | q + 1, i, f, g, hq, hf, hg, h => by
    by_cases hi : i < s.size
    · have hs := vd_step h hi; have hd := dec_in h hi; have he := dec_eq hi hs.1; rw [rn_in hf hi, ptF_in hg hi, List.length_cons, List.length_cons, he.1, rn_pt q _ (f - 1) (g - 1) (by omega) (by omega) (by omega) hs.2]
    rw [rn_end (by omega), ptF_end (by omega)]; rfl
theorem sok_valid {G0 : GH} (ht : TabsG G0) {s : ByteArray} (hs : s.size ≤ 1073741824) (hv : validS s = true) : SOk G0 s := by
  have hf : firstS s 0 < 0 := by simpa [validS] using hv
  refine ⟨hs, hv, ⟨fun G w0 h0 hG => ?_⟩, rn_pt _ 0 _ _ (Nat.le_refl _) (by omega) (by omega) hf⟩; have hT : TabsG G := ⟨fun c hc => gcell_mono h0 (ht.first c hc), fun i hi => ⟨gcell_mono h0 (ht.acc i hi).1, gcell_mono h0 (ht.acc i hi).2⟩⟩; have h := vstr_spec G w0 hG hT s hs
  have e : Go.Lib.validD s.data.toList = true := by simpa using validD_of _ 0 (Nat.le_refl _) hf
  rw [e] at h; exact h
/-! ## Units -/
def isB (s : ByteArray) (i : Nat) : Bool := decide (¬ (128 ≤ byteAt s i ∧ byteAt s i ≤ 191))
theorem filter_unit {s : ByteArray} {i n : Nat} (h0 : isB s i = true) (h1 : ∀ j, 0 < j → j < n → isB s (i + j) = false) (hn : 0 < n) : (List.range' i n).filter (isB s) = [i] := by
  obtain ⟨k, rfl⟩ : ∃ k, n = k + 1 := ⟨n - 1, by omega⟩; rw [List.range'_succ, List.filter_cons, if_pos h0]
  have : (List.range' (i + 1) k).filter (isB s) = [] := by
    rw [List.filter_eq_nil_iff]; intro a ha; rw [List.mem_range'_1] at ha; have := h1 (a - i) (by omega) (by omega); rw [show i + (a - i) = a by omega] at this
    simp [this]
  rw [this]
theorem begs_eq {s : ByteArray} : ∀ (q i f : Nat), s.size - i ≤ q → s.size - i ≤ f → firstS s i < 0 → i ≤ s.size → (List.range' i (s.size - i)).filter (isB s) = (rnF s f i).map (·.1)
  | 0, i, f, hq, _, _, _ => by rw [rn_end (by omega), show s.size - i = 0 by omega]; rfl
  | q + 1, i, f, hq, hf, h, hle => by
    by_cases hi : i < s.size
    · have hs := vd_step h hi; have hd := dec_in h hi; have he := dec_eq hi hs.1; obtain ⟨n, hn⟩ : ∃ n, n = (decS s i).2.1 := ⟨_, rfl⟩; rw [← hn] at hs hd he; rw [rn_in hf hi, List.map_cons, he.1, ← begs_eq q (i + n) (f - 1) (by omega) (by omega) hs.2 (by omega)]; rw [show s.size - i = n + (s.size - (i + n)) by omega, ← List.range'_append_1, List.filter_append]
      rw [filter_unit (by simp only [isB, decide_eq_true_eq]; exact he.2.2.2) (fun j h1 h2 => by
        have := he.2.2.1 j h1 h2
        simp only [isB, decide_eq_false_iff_not, Decidable.not_not]; exact this.2) hd.1]
      rfl
    rw [rn_end (by omega), show s.size - i = 0 by omega]; rfl
/-- The offsets at which the units begin, and the size. -/
def offS (s : ByteArray) : List Nat := (rnS s).map (·.1) ++ [s.size]
def begS (s : ByteArray) : List Nat := (List.range s.size).filter (isB s) ++ [s.size]
theorem begS_eq {s : ByteArray} (hv : validS s = true) : begS s = offS s := by
  have hf : firstS s 0 < 0 := by simpa [validS] using hv
  rw [begS, offS, rnS, ← begs_eq _ 0 s.size (Nat.le_refl _) (by omega) hf (Nat.zero_le _), List.range_eq_range']
  rfl
/-! ## Texts of units -/
theorem enc_eq (r : Nat) : (Utf8.encode (r : Int)).data.toList = Go.Lib.encodeRune (r : Int) := by
  have big : ∀ x : Nat, (x : Int).toNat = x := fun x => Int.toNat_natCast x
  unfold Utf8.encode Go.Lib.encodeRune
  simp only
  by_cases c1 : r ≤ 127
  · have hv : Utf8.valid (r : Int) = true := by simp only [Utf8.valid, Bool.or_eq_true, Bool.and_eq_true, decide_eq_true_eq]; omega
    rw [if_pos hv, Go.Lib.encodeRuneZ_one (by omega) (by omega), big, if_pos (by omega)]
    rfl
  by_cases c2 : r ≤ 2047
  · have hv : Utf8.valid (r : Int) = true := by simp only [Utf8.valid, Bool.or_eq_true, Bool.and_eq_true, decide_eq_true_eq]; omega
    rw [if_pos hv, Go.Lib.encodeRuneZ_two (by omega) (by omega), big, if_neg (by omega), if_pos (by omega)]
    simp only [List.map_cons, List.map_nil]
    rw [show (192 + (r : Int) / 64).toNat = 192 + r / 64 by omega, show (128 + (r : Int) % 64).toNat = 128 + r % 64 by omega]
  by_cases c3 : r ≤ 65535 ∧ ¬ (55296 ≤ r ∧ r ≤ 57343)
  · have hv : Utf8.valid (r : Int) = true := by simp only [Utf8.valid, Bool.or_eq_true, Bool.and_eq_true, decide_eq_true_eq]; omega
    rw [if_pos hv, Go.Lib.encodeRuneZ_three (by omega), big, if_neg (by omega), if_neg (by omega), if_pos (by omega)]
    simp only [List.map_cons, List.map_nil]
    rw [show (224 + (r : Int) / 4096).toNat = 224 + r / 4096 by omega, show (128 + (r : Int) / 64 % 64).toNat = 128 + r / 64 % 64 by omega, show (128 + (r : Int) % 64).toNat = 128 + r % 64 by omega]
  by_cases c4 : 65536 ≤ r ∧ r ≤ 1114111
  · have hv : Utf8.valid (r : Int) = true := by simp only [Utf8.valid, Bool.or_eq_true, Bool.and_eq_true, decide_eq_true_eq]; omega
    rw [if_pos hv, Go.Lib.encodeRuneZ_four (by omega) (by omega), big, if_neg (by omega), if_neg (by omega), if_neg (by omega)]
    simp only [List.map_cons, List.map_nil]
    rw [show (240 + (r : Int) / 262144).toNat = 240 + r / 262144 by omega, show (128 + (r : Int) / 4096 % 64).toNat = 128 + r / 4096 % 64 by omega, show (128 + (r : Int) / 64 % 64).toNat = 128 + r / 64 % 64 by omega, show (128 + (r : Int) % 64).toNat = 128 + r % 64 by omega]
  have hv : ¬ Utf8.valid (r : Int) = true := by simp only [Utf8.valid, Bool.or_eq_true, Bool.and_eq_true, decide_eq_true_eq]; omega
  rw [if_neg hv, Go.Lib.encodeRuneZ_bad (by omega)]
  decide
theorem enc_bytes {s : ByteArray} {i : Nat} (h : firstS s i < 0) (hi : i < s.size) : (Utf8.encode ((Utf8.decode s i).1 : Int)).data.toList = (s.data.toList.drop i).take (Utf8.decode s i).2 := by
  have hne : s.data.toList.drop i ≠ [] := by
    intro e; have := congrArg List.length e; rw [List.length_drop, ← Go.Lib.size_eq] at this
    simp at this; omega
  have he := dec_eq hi (vd_step h hi).1; have h1 := Go.Lib.encode_decode _ hne (by rw [Go.Lib.decodeL_drop]; exact he.2.1); rw [Go.Lib.decodeL_drop] at h1; rw [← h1, enc_eq]
theorem runes_list : ∀ (ns : List Int) (b : ByteArray), (ns.foldl (fun r n => r ++ Utf8.encode n) b).data.toList = b.data.toList ++ ns.flatMap fun n => (Utf8.encode n).data.toList
  | [], b => by simp
  | n :: ns, b => by
    rw [List.foldl_cons, runes_list ns]
    simp [ByteArray.data_append]
theorem runesBytes_list (ns : List Int) : (runesBytes ns).data.toList = ns.flatMap fun n => (Utf8.encode n).data.toList := by
  rw [runesBytes, runes_list]; rfl
/-- The offset of the j-th unit from i on. -/
def advS (s : ByteArray) : Nat → Nat → Nat
  | i, 0 => i
  | i, j + 1 => if i < s.size then advS s (i + (Utf8.decode s i).2) j else i
theorem adv_le {s : ByteArray} : ∀ (j i : Nat), firstS s i < 0 → i ≤ s.size → i ≤ advS s i j ∧ advS s i j ≤ s.size
  | 0, i, _, h => ⟨Nat.le_refl _, h⟩
  | j + 1, i, hf, h => by
    rw [advS]
    split
    · rename_i hi
      have hd := dec_in hf hi; have he := dec_eq hi (vd_step hf hi).1; have := adv_le j (i + (Utf8.decode s i).2) (by rw [he.1]; exact (vd_step hf hi).2) (by omega)
      omega
    omega
theorem adv_off {s : ByteArray} : ∀ (j i f : Nat), s.size - i ≤ f → firstS s i < 0 → i ≤ s.size → j ≤ (rnF s f i).length → ((rnF s f i).map (·.1) ++ [s.size])[j]? = some (advS s i j)
  | j, i, f, hf, h, hle, hj => by
    by_cases hi : i < s.size
    · have hd := dec_in h hi; have he := dec_eq hi (vd_step h hi).1; rw [rn_in hf hi] at hj ⊢
      cases j with
      | zero => rfl
      | succ j =>
        rw [advS, if_pos hi, List.map_cons, List.cons_append, List.getElem?_cons_succ]; exact adv_off j (i + (Utf8.decode s i).2) (f - 1) (by omega) (by rw [he.1]; exact (vd_step h hi).2) (by omega) (by simpa using hj)
    rw [rn_end hi] at hj ⊢
    simp at hj; subst hj
    have : i = s.size := by omega
    simp [advS, this]
/-- The bytes of the first units from i on. -/
theorem units_bytes {s : ByteArray} : ∀ (j i f : Nat), s.size - i ≤ f → firstS s i < 0 → i ≤ s.size → (((rnF s f i).take j).map fun x => (x.2 : Int)).flatMap (fun n => (Utf8.encode n).data.toList) = (s.data.toList.drop i).take (advS s i j - i)
  | 0, i, f, _, _, _ => by simp [advS]
  | j + 1, i, f, hf, h, hle => by
    by_cases hi : i < s.size
    · have hd := dec_in h hi; have he := dec_eq hi (vd_step h hi).1
      have hs2 : firstS s (i + (Utf8.decode s i).2) < 0 := by rw [he.1]; exact (vd_step h hi).2
      have ha := adv_le j (i + (Utf8.decode s i).2) hs2 (by omega); rw [rn_in hf hi, List.take_succ_cons, List.map_cons, List.flatMap_cons, enc_bytes h hi, units_bytes j (i + (Utf8.decode s i).2) (f - 1) (by omega) hs2 (by omega), advS, if_pos hi, ← List.drop_drop, ← List.take_add]
      congr 1; omega
    rw [rn_end hi, advS, if_neg hi]; simp
theorem rn_drop {s : ByteArray} : ∀ (u i f : Nat), s.size - i ≤ f → firstS s i < 0 → i ≤ s.size → ∃ g, s.size - advS s i u ≤ g ∧ (rnF s f i).drop u = rnF s g (advS s i u)
  | 0, i, f, hf, _, _ => ⟨f, hf, rfl⟩
  | u + 1, i, f, hf, h, hle => by
    by_cases hi : i < s.size
    · have hd := dec_in h hi; have he := dec_eq hi (vd_step h hi).1; rw [rn_in hf hi, advS, if_pos hi, List.drop_succ_cons]; exact rn_drop u (i + (Utf8.decode s i).2) (f - 1) (by omega) (by rw [he.1]; exact (vd_step h hi).2) (by omega)
    rw [rn_end hi, advS, if_neg hi]; exact ⟨0, by omega, by simp [rnF]⟩
theorem adv_ok {s : ByteArray} : ∀ (u i : Nat), firstS s i < 0 → i ≤ s.size → firstS s (advS s i u) < 0
  | 0, i, h, _ => h
  | u + 1, i, h, hle => by
    rw [advS]; split
    · rename_i hi
      have hd := dec_in h hi; have he := dec_eq hi (vd_step h hi).1; exact adv_ok u _ (by rw [he.1]; exact (vd_step h hi).2) (by omega)
    exact h
theorem adv_add {s : ByteArray} : ∀ (u i v : Nat), advS s i (u + v) = advS s (advS s i u) v
  | 0, i, v => by rw [Nat.zero_add]; rfl
  | u + 1, i, v => by
    rw [show u + 1 + v = (u + v) + 1 by omega, advS, advS]
    split
    · exact adv_add u _ v
    rename_i hi
    cases v with
    | zero => rfl
    | succ v => rw [advS, if_neg hi]
theorem ext_list2 (s : ByteArray) (a b : Nat) : (s.extract a b).data.toList = (s.data.toList.drop a).take (b - a) := by
  simp [ByteArray.data_extract]
/-- The text of some units is the bytes between their offsets. -/
theorem units_text {s : ByteArray} (hv : validS s = true) {u v : Nat} (huv : u ≤ v) : runesBytes ((((rnS s).map fun x => (x.2 : Int)).drop u).take (v - u)) = s.extract (advS s 0 u) (advS s 0 v) := by
  have hf : firstS s 0 < 0 := by simpa [validS] using hv
  obtain ⟨g, hg, e⟩ := rn_drop u 0 s.size (by omega) hf (Nat.zero_le _); have ha := adv_le u 0 hf (Nat.zero_le _); have hok := adv_ok u 0 hf (Nat.zero_le _); have h1 := units_bytes (v - u) (advS s 0 u) g hg hok ha.2; rw [← adv_add, show u + (v - u) = v by omega] at h1
  have h2 : (runesBytes ((((rnS s).map fun x => (x.2 : Int)).drop u).take (v - u))).data.toList = (s.extract (advS s 0 u) (advS s 0 v)).data.toList := by
    rw [runesBytes_list, ← List.map_drop, ← List.map_take, rnS, e, h1, ext_list2]
  exact ByteArray.ext (Array.ext' h2)
theorem offS_at {s : ByteArray} (hv : validS s = true) {u : Nat} (hu : u ≤ (rnS s).length) : (offS s)[u]? = some (advS s 0 u) := by
  have hf : firstS s 0 < 0 := by simpa [validS] using hv
  exact adv_off u 0 s.size (by omega) hf (Nat.zero_le _) hu
end Go.Proofs.YtpmcdlhhfbobfaaDoor
