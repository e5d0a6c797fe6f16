/-
  The model's blocks are the blocks; they tile the flow.
-/
import Derived.Test.YtbfdhlakbdadhaaL14d
namespace Go.Proofs.Ytbfdhlakbdadhaa
open Go.RowKit
theorem mdl_text (fr : Nat) (ks : List Int) : ∀ (m at_ : Nat) (so : Bool), mdl fr at_ so (List.replicate m 1 ++ ks) = mdl fr (at_ + m) (so || decide (¬ m = 0)) ks
  | 0, at_, so => by simp
  | m + 1, at_, so => by
    rw [List.replicate_succ, List.cons_append, mdl, if_neg (by decide), if_neg (by decide), mdl_text fr ks m]
    congr 1
    · omega
    · simp
theorem tail_rest (fr at_ : Nat) (lo : Bool) (h : fr ≤ at_) : tailM fr at_ (!lo) = restL fr at_ lo := by
  unfold tailM restL
  by_cases e : fr = at_
  · rw [if_neg (show ¬ fr < at_ by omega), if_pos (show (fr : Int) = at_ by omega)]
  · rw [if_pos (show fr < at_ by omega), if_neg (show ¬ (fr : Int) = at_ by omega)]
    cases lo <;> rfl
theorem mdl_blk : ∀ (l : List ItemD) (fr at_ : Nat) (lo : Bool), fr ≤ at_ → mdl fr at_ (!lo) (kindsS l) = blkS fr at_ lo l
  | [], fr, at_, lo, h => by
    rw [blkS, show kindsS [] = [] from rfl, mdl, tail_rest fr at_ lo h]
  | x :: l, fr, at_, lo, h => by
    have e : kindsS (x :: l) = List.replicate (n1 x) x.kind ++ kindsS l := by simp [kindsS]
    rw [e, blkS]
    by_cases h1 : x.kind = 1
    · rw [h1, if_neg (by decide), if_neg (by decide), mdl_text]
      have ih := mdl_blk l fr (at_ + n1 x) (lo && decide (n1 x = 0)) (by omega)
      rw [show (!(lo && decide (n1 x = 0))) = ((!lo) || decide (¬ n1 x = 0)) by cases lo <;> simp] at ih
      rw [ih]
      simp
    · have hn := n1_not h1
      rw [hn, show List.replicate 1 x.kind = [x.kind] from rfl, List.cons_append, List.nil_append, mdl]
      by_cases h2 : x.kind = 2
      · rw [if_pos h2, if_pos h2]
        have ih := mdl_blk l (at_ + 1) (at_ + 1) true (Nat.le_refl _)
        rw [Bool.not_true] at ih
        rw [ih]; simp
      · rw [if_neg h2, if_neg h2]
        by_cases h3 : x.kind = 7 ∨ x.kind = 3
        · rw [if_pos h3, if_pos h3, tail_rest fr at_ lo h]
          have ih := mdl_blk l (at_ + 1) (at_ + 1) true (Nat.le_refl _)
          rw [Bool.not_true] at ih
          rw [ih]; simp
        · rw [if_neg h3, if_neg h3]
          have ih := mdl_blk l fr (at_ + 1) (lo && decide (x.kind = 8)) (by omega)
          rw [show (!(lo && decide (x.kind = 8))) = ((!lo) || decide (¬ x.kind = 8)) by cases lo <;> simp] at ih
          rw [ih]; simp
theorem model_is (l : List ItemD) : mdl 0 0 false (kindsS l) = blkS 0 0 true l := mdl_blk l 0 0 true (Nat.le_refl _)
/-- Blocks that follow each other from s to e. -/
def Tile : Int → List BlkD → Int → Prop
  | s, [], e => s = e
  | s, b :: bs, e => b.from_ = s ∧ s < b.to ∧ Tile b.to bs e
theorem tile_rest {fr at_ : Int} (lo : Bool) (h : fr ≤ at_) {bs : List BlkD} {e : Int} (ht : Tile at_ bs e) : Tile fr (restL fr at_ lo ++ bs) e := by
  unfold restL
  by_cases h' : fr = at_
  · rw [if_pos h', h']; exact ht
  · rw [if_neg h']; exact ⟨rfl, by show fr < at_; omega, ht⟩
def sumN : List ItemD → Nat
  | [] => 0
  | x :: l => n1 x + sumN l
theorem blkS_tile : ∀ (l : List ItemD) (fr at_ : Int) (lo : Bool), fr ≤ at_ → Tile fr (blkS fr at_ lo l) (at_ + sumN l)
  | [], fr, at_, lo, h => by
    have := tile_rest lo h (bs := []) (e := at_) rfl
    rw [List.append_nil] at this
    rw [blkS]
    simpa [sumN] using this
  | x :: l, fr, at_, lo, h => by
    rw [blkS]
    have es : (at_ + (sumN (x :: l) : Nat) : Int) = at_ + n1 x + sumN l := by simp only [sumN]; omega
    rw [es]
    by_cases h2 : x.kind = 2
    · have hn := n1_not (x := x) (by omega)
      rw [if_pos h2, hn]
      exact ⟨rfl, by show fr < at_ + 1; omega, blkS_tile l _ _ _ (Int.le_refl _)⟩
    · rw [if_neg h2]
      by_cases h3 : x.kind = 7 ∨ x.kind = 3
      · have hn := n1_not (x := x) (by omega)
        rw [if_pos h3, hn]
        exact tile_rest lo h ⟨rfl, by show at_ < at_ + 1; omega, blkS_tile l _ _ _ (Int.le_refl _)⟩
      · rw [if_neg h3]
        exact blkS_tile l _ _ _ (by omega)
def marksN (l : List BlkD) : Nat := l.countP (·.mark)
def parasN (l : List ItemD) : Nat := l.countP (fun x => decide (x.kind = 2))
theorem marks_rest (fr at_ : Int) (lo : Bool) : marksN (restL fr at_ lo) = 0 := by unfold restL marksN; split <;> simp
theorem blkS_marks : ∀ (l : List ItemD) (fr at_ : Int) (lo : Bool), marksN (blkS fr at_ lo l) = parasN l
  | [], fr, at_, lo => by rw [blkS, marks_rest]; rfl
  | x :: l, fr, at_, lo => by
    have e : parasN (x :: l) = parasN l + if x.kind = 2 then 1 else 0 := by simp [parasN, List.countP_cons]
    rw [e, blkS]
    by_cases h2 : x.kind = 2
    · rw [if_pos h2, if_pos h2, ← blkS_marks l (at_ + 1) (at_ + n1 x) true]
      simp [marksN, List.countP_cons]
    · rw [if_neg h2, if_neg h2, Nat.add_zero]
      by_cases h3 : x.kind = 7 ∨ x.kind = 3
      · rw [if_pos h3, ← blkS_marks l (at_ + 1) (at_ + n1 x) true]
        have := marks_rest fr at_ lo
        simp only [marksN, List.countP_append, List.countP_cons] at *
        simp [this]
      · rw [if_neg h3]
        exact blkS_marks l _ _ _
theorem sumN_eq : ∀ l : List ItemD, divS l = true → sumN l = sumS l
  | [], _ => rfl
  | x :: l, h => by
    unfold divS at h
    rw [List.all_cons, Bool.and_eq_true] at h
    have ih := sumN_eq l h.2
    have h1 : unitsE x = 0 := by simpa using h.1
    simp [sumN, sumS, n1, h1, ih]
/-- What a divisible flow's blocks are: they follow each other, and have as many marks as there are paragraphs. -/
theorem blocks_tile (l : List ItemD) (h : lenE l = 0) : Tile 0 (blocksS l) (lenS l) ∧ marksN (blocksS l) = parasN l := by
  have hd : divS l = true := by
    unfold lenE at h
    cases e : divS l with
    | true => rfl
    | false => rw [e] at h; exact absurd h (by decide)
  have e1 : blocksS l = blkS 0 0 true l := by rw [blocksS, if_pos h]
  have e2 : lenS l = (sumN l : Nat) := by rw [lenS, if_pos hd, sumN_eq l hd]
  rw [e1, e2]
  have ht := blkS_tile l 0 0 true (Int.le_refl _)
  rw [Int.zero_add] at ht
  exact ⟨ht, blkS_marks l 0 0 true⟩
end Go.Proofs.Ytbfdhlakbdadhaa
