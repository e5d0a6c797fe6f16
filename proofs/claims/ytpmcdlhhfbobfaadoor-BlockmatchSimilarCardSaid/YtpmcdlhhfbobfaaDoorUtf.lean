/-
  Strings that are valid: units, and how both decoders read them.
-/
import Derived.Test.YtpmcdlhhfbobfaaDoorU8
import Derived.Test.YtpmcdlhhfbobfaaDoorTxs
import Derived.Lib.MapLaws
import Derived.Lib.TrimUEq
namespace Go.Proofs.YtpmcdlhhfbobfaaDoor
open Go.RowKit
theorem decLoop_ok {s : ByteArray} {a n : Nat} : ∀ (f k : Nat) (low high p : Int), (decLoop s a n f k low high p).2.2 = true → k ≤ n → n ≤ k + f →
    (decLoop s a n f k low high p).2.1 = n ∧ ∀ j, k ≤ j → j < n → a + j < s.size ∧ (if j = k then low ≤ byteAt s (a + j) ∧ byteAt s (a + j) ≤ high else 128 ≤ byteAt s (a + j) ∧ byteAt s (a + j) ≤ 191)
  | 0, k, low, high, p, _, h1, h2 => by
    have hk : k = n := by omega
    subst hk; exact ⟨by rw [decLoop], fun j hj hj2 => by omega⟩
  | f + 1, k, low, high, p, h, h1, h2 => by
    rw [decLoop] at h ⊢
    by_cases hn : n ≤ k
    · rw [if_pos hn]; exact ⟨by dsimp only; omega, fun j hj hj2 => by omega⟩
    rw [if_neg hn] at h ⊢
    by_cases hb : s.size ≤ a + k ∨ byteAt s (a + k) < low ∨ high < byteAt s (a + k)
    · rw [if_pos hb] at h; cases h
    rw [if_neg hb] at h ⊢; obtain ⟨e1, e2⟩ := decLoop_ok f (k + 1) 128 191 _ h (by omega) (by omega); refine ⟨e1, fun j hj hj2 => ?_⟩
    by_cases hjk : j = k
    · subst hjk; rw [if_pos rfl]; omega
    rw [if_neg hjk]; have := e2 j (by omega) hj2
    split at this
    · omega
    exact this
theorem byte_get {s : ByteArray} {i : Nat} (h : i < s.size) : byteAt s i = ((s.get! i).toNat : Int) := by rw [byteAt_lt h, Go.Proofs.Utf8W.get!_of_lt s i h]
/-- Where codepoint's decoder is content, the runtime's reads the same bytes. -/
theorem dec_eq {s : ByteArray} {i : Nat} (hi : i < s.size) (h : (decS s i).2.2 = true) : (Utf8.decode s i).2 = (decS s i).2.1 ∧ ¬ ((Utf8.decode s i).1 = 65533 ∧ (Utf8.decode s i).2 = 1) ∧
    (∀ j, 0 < j → j < (decS s i).2.1 → i + j < s.size ∧ 128 ≤ byteAt s (i + j) ∧ byteAt s (i + j) ≤ 191) ∧ ¬ (128 ≤ byteAt s i ∧ byteAt s i ≤ 191) := by
  have hb := byte_get hi; have hlt : (s.get! i).toNat < 256 := (s.get! i).toNat_lt; obtain ⟨B, hB⟩ : ∃ B, B = (s.get! i).toNat := ⟨_, rfl⟩; rw [← hB] at hb hlt
  unfold decS at h ⊢
  simp only at h ⊢
  have ht : tailS (byteAt s i) = tailS (B : Int) := by rw [hb]
  rw [ht] at h ⊢
  by_cases c1 : B < 128
  · have e3 : (tailS (B : Int)).2.2 = 1 := by simp only [tailS]; rw [if_pos (by omega)]
    rw [if_neg (by omega), if_pos e3]
    have hd : Utf8.decode s i = (B, 1) := by
      unfold Utf8.decode
      simp only [Nat.add_zero, ← hB]
      rw [if_pos (by omega)]
    rw [hd]; exact ⟨rfl, by simp; omega, fun j h1 h2 => by simp at h2; omega, by omega⟩
  by_cases c2 : B < 194 ∨ 244 < B
  · have e3 : (tailS (B : Int)).2.2 = 0 := by simp only [tailS]; rw [if_neg (by omega), if_pos (by omega)]
    rw [if_pos e3] at h; cases h
  by_cases c3 : B < 224
  · have e3 : (tailS (B : Int)).2.2 = 2 := by simp only [tailS]; rw [if_neg (by omega), if_neg (by omega), if_pos (by omega)]
    have e1 : (tailS (B : Int)).1 = 128 ∧ (tailS (B : Int)).2.1 = 191 := by simp only [tailS]; refine ⟨?_, ?_⟩ <;> (rw [if_neg (by omega), if_neg (by omega)])
    rw [if_neg (by omega), if_neg (by omega), e3, e1.1, e1.2] at h ⊢; obtain ⟨q1, q2⟩ := decLoop_ok _ _ _ _ _ h (by decide) (by decide); have b1 := q2 1 (by decide) (by decide); rw [if_pos rfl] at b1; have g1 := byte_get b1.1; obtain ⟨B1, hB1⟩ : ∃ B1, B1 = (s.get! (i + 1)).toNat := ⟨_, rfl⟩; rw [← hB1] at g1; rw [q1]
    have hd : Utf8.decode s i = ((B % 32) * 64 + B1 % 64, 2) := by
      unfold Utf8.decode
      simp only [Nat.add_zero, ← hB, ← hB1]
      rw [if_neg (by omega), if_pos (by simp [b1.1]; omega), if_pos (by omega)]
    rw [hd]; refine ⟨rfl, by simp, fun j h1 h2 => ?_, by omega⟩
    obtain rfl : j = 1 := by have : j < 2 := h2; omega
    exact ⟨b1.1, b1.2⟩
  by_cases c4 : B < 240
  · have e3 : (tailS (B : Int)).2.2 = 3 := by simp only [tailS]; rw [if_neg (by omega), if_neg (by omega), if_neg (by omega), if_pos (by omega)]
    have e1 : 128 ≤ (tailS (B : Int)).1 ∧ (tailS (B : Int)).2.1 ≤ 191 ∧ (B = 224 → (tailS (B : Int)).1 = 160) ∧ (B = 237 → (tailS (B : Int)).2.1 = 159) := by
      simp only [tailS]
      refine ⟨?_, ?_, fun e => ?_, fun e => ?_⟩
      · split
        · omega
        split <;> omega
      · split
        · omega
        split <;> omega
      · rw [if_pos (by omega)]
      rw [if_pos (by omega)]
    obtain ⟨lo, hlo⟩ : ∃ x, x = (tailS (B : Int)).1 := ⟨_, rfl⟩; obtain ⟨hi', hhi⟩ : ∃ x, x = (tailS (B : Int)).2.1 := ⟨_, rfl⟩; rw [if_neg (by omega), if_neg (by omega), e3, ← hlo, ← hhi] at h ⊢; rw [← hlo, ← hhi] at e1; obtain ⟨q1, q2⟩ := decLoop_ok _ _ _ _ _ h (by decide) (by decide); have b1 := q2 1 (by decide) (by decide); have b2 := q2 2 (by decide) (by decide); rw [if_pos rfl] at b1; rw [if_neg (by decide)] at b2; have g1 := byte_get b1.1; have g2 := byte_get b2.1; obtain ⟨B1, hB1⟩ : ∃ B1, B1 = (s.get! (i + 1)).toNat := ⟨_, rfl⟩; obtain ⟨B2, hB2⟩ : ∃ B2, B2 = (s.get! (i + 2)).toNat := ⟨_, rfl⟩; rw [← hB1] at g1; rw [← hB2] at g2; rw [q1]
    have hv : Utf8.valid (((B % 16) * 4096 + (B1 % 64) * 64 + B2 % 64 : Nat) : Int) = true := by
      simp only [Utf8.valid, Bool.or_eq_true, Bool.and_eq_true, decide_eq_true_eq]
      have h237 := e1.2.2.2
      omega
    have hd : Utf8.decode s i = ((B % 16) * 4096 + (B1 % 64) * 64 + B2 % 64, 3) := by
      unfold Utf8.decode
      simp only [Nat.add_zero, ← hB, ← hB1, ← hB2]
      have h224 := e1.2.2.1; rw [if_neg (by omega), if_neg (by simp; omega), if_pos (by simp [b1.1, b2.1]; omega), if_pos (by simp only [Bool.and_eq_true, decide_eq_true_eq]; exact ⟨by omega, hv⟩)]
    rw [hd]; refine ⟨rfl, by simp, fun j h1 h2 => ?_, by omega⟩; have h2' : j < 3 := h2
    rcases (show j = 1 ∨ j = 2 by omega) with rfl | rfl
    · exact ⟨b1.1, by omega, by omega⟩
    exact ⟨b2.1, b2.2⟩
  have e3 : (tailS (B : Int)).2.2 = 4 := by simp only [tailS]; rw [if_neg (by omega), if_neg (by omega), if_neg (by omega), if_neg (by omega)]
  have e1 : 128 ≤ (tailS (B : Int)).1 ∧ (tailS (B : Int)).2.1 ≤ 191 ∧ (B = 240 → (tailS (B : Int)).1 = 144) ∧ (B = 244 → (tailS (B : Int)).2.1 = 143) := by
    simp only [tailS]
    refine ⟨?_, ?_, fun e => ?_, fun e => ?_⟩
    · split
      · omega
      split <;> omega
    · split
      · omega
      split <;> omega
    · rw [if_neg (by omega), if_pos (by omega)]
    rw [if_neg (by omega), if_pos (by omega)]
  obtain ⟨lo, hlo⟩ : ∃ x, x = (tailS (B : Int)).1 := ⟨_, rfl⟩; obtain ⟨hi', hhi⟩ : ∃ x, x = (tailS (B : Int)).2.1 := ⟨_, rfl⟩; rw [if_neg (by omega), if_neg (by omega), e3, ← hlo, ← hhi] at h ⊢; rw [← hlo, ← hhi] at e1; obtain ⟨q1, q2⟩ := decLoop_ok _ _ _ _ _ h (by decide) (by decide); have b1 := q2 1 (by decide) (by decide); have b2 := q2 2 (by decide) (by decide); have b3 := q2 3 (by decide) (by decide); rw [if_pos rfl] at b1; rw [if_neg (by decide)] at b2 b3; have g1 := byte_get b1.1; have g2 := byte_get b2.1; have g3 := byte_get b3.1; obtain ⟨B1, hB1⟩ : ∃ B1, B1 = (s.get! (i + 1)).toNat := ⟨_, rfl⟩; obtain ⟨B2, hB2⟩ : ∃ B2, B2 = (s.get! (i + 2)).toNat := ⟨_, rfl⟩; obtain ⟨B3, hB3⟩ : ∃ B3, B3 = (s.get! (i + 3)).toNat := ⟨_, rfl⟩; rw [← hB1] at g1; rw [← hB2] at g2; rw [← hB3] at g3; rw [q1]; have h240 := e1.2.2.1; have h244 := e1.2.2.2
  have hv : Utf8.valid (((B % 8) * 262144 + (B1 % 64) * 4096 + (B2 % 64) * 64 + B3 % 64 : Nat) : Int) = true := by
    simp only [Utf8.valid, Bool.or_eq_true, Bool.and_eq_true, decide_eq_true_eq]
    omega
  have hd : Utf8.decode s i = ((B % 8) * 262144 + (B1 % 64) * 4096 + (B2 % 64) * 64 + B3 % 64, 4) := by
    unfold Utf8.decode
    simp only [Nat.add_zero, ← hB, ← hB1, ← hB2, ← hB3]
    rw [if_neg (by omega), if_neg (by simp; omega), if_neg (by simp; omega), if_pos (by simp [b1.1, b2.1, b3.1]; omega), if_pos (by simp only [Bool.and_eq_true, decide_eq_true_eq]; exact ⟨by omega, hv⟩)]
  rw [hd]; refine ⟨rfl, by simp, fun j h1 h2 => ?_, by omega⟩; have h2' : j < 4 := h2
  rcases (show j = 1 ∨ j = 2 ∨ j = 3 by omega) with rfl | rfl | rfl
  · exact ⟨b1.1, by omega, by omega⟩
  · exact ⟨b2.1, b2.2⟩
  exact ⟨b3.1, b3.2⟩
end Go.Proofs.YtpmcdlhhfbobfaaDoor
