/-
  Regions that draw the order of their operations, in which each operation has its own part of what is owned: the layout is told by what is done.
-/
import Derived.Test.YtpmcdlhhfbobfaaDoorDy
namespace Go.Proofs.YtpmcdlhhfbobfaaDoor
open Go.RowKit
section
variable {N : Nat} {D : List Deferred} {w0 : World} {F : Nat → Prop} {G0 G : GH} {L : OL} {T T' : List (Nat × Value)}
variable {r : Option Nat} {P : Program} {Q : Exit → Act → World → Prop} {l : List Oper} {a a' : Act} {w w' : World} {ε : Type}
/-- What the slots of the operations that are done hold. -/
def Vals (l : List Oper) (pr : ε → Nat → Value → Prop) (T : List (Nat × Value)) (S : Nat → Bool) (E : ε) (T' : List (Nat × Value)) : Prop :=
  (∀ t v, lk T t = some v → lk T' t = some v) ∧ ∀ i d, S i = true → dstOf l i = some d → ∃ v, lk T' d = some v ∧ pr E i v
theorem Vals.put {pr : ε → Nat → Value → Prop} {S : Nat → Bool} {E E' : ε} {i d : Nat} {v : Value} (h : Vals l pr T S E T') (hok : dstOk l T = true) (hi : dstOf l i = some d) (hv : pr E' i v) (hE : ∀ j u, j ≠ i → pr E j u → pr E' j u) : Vals l pr T (setT S i) E' ((d, v) :: T') := by
  have hil := dstOf_lt hi
  have hok1 := List.all_eq_true.1 hok i (List.mem_range.2 hil)
  rw [dst1, hi] at hok1
  simp only [Bool.and_eq_true, Option.isNone_iff_eq_none, List.all_eq_true, List.mem_range] at hok1
  refine ⟨fun t u ht => ?_, fun j e hj he => ?_⟩
  · rw [lk_cons_ne (fun e => by subst e; rw [hok1.1] at ht; cases ht)]; exact h.1 t u ht
  · by_cases hji : j = i
    · subst hji; rw [hi] at he; cases he; exact ⟨v, lk_cons_self _ _ _, hv⟩
    · have hSj : S j = true := by unfold setT at hj; rwa [if_neg hji] at hj
      obtain ⟨u, hu1, hu2⟩ := h.2 j e hSj he
      have hne : d ≠ e := by
        intro e'; subst e'
        have h2 := hok1.2 j (dstOf_lt he)
        have hb : Nat.beq i j = false := beq_no (fun h => hji h.symm)
        rw [hb, he] at h2
        simp at h2
      exact ⟨u, by rw [lk_cons_ne hne]; exact hu1, hE j u hji hu2⟩
theorem Vals.unit {pr : ε → Nat → Value → Prop} {S : Nat → Bool} {E : ε} {i : Nat} (h : Vals l pr T S E T') (hi : dstOf l i = none) : Vals l pr T (setT S i) E T' :=
  ⟨h.1, fun j e hj he => h.2 j e (by
    unfold setT at hj
    by_cases hji : j = i
    · subst hji; rw [hi] at he; cases he
    · rwa [if_neg hji] at hj) he⟩
theorem c_drawE {id : Nat} (hm : P.follows .mixedOrders = true) (clo : List (List Nat)) (hk : drawOk l clo = true) (pr : ε → Nat → Value → Prop) (Lf : (Nat → Bool) → ε → OL) (E0 : ε) (H : St N D w0 F G0 G (Lf (fun _ => false) E0) T a w)
    (hstep : allI (fun i o => ∀ S E T' a w, S i = false → (∀ j ∈ clo.getD i [], S j = true) → (∀ j, j < l.length → i ∈ clo.getD j [] → S j = false) → St N D w0 F G0 G (Lf S E) T' a w → Vals l pr T S E T' →
      WL r P l.toArray (fun e a' w' => e = .normal ∧ ∃ E' T'', St N D w0 F G0 G (Lf (setT S i) E') T'' a' w' ∧ Vals l pr T (setT S i) E' T'') [o] a w) 0 l)
    (hend : ∀ S E T' a w, (∀ i, i < l.length → S i = true) → St N D w0 F G0 G (Lf S E) T' a w → Vals l pr T S E T' → Q .normal a w) : WP r P (.region id l.toArray true) Q a w := by
  refine c_draw hm clo hk (fun S a w => ∃ E T', St N D w0 F G0 G (Lf S E) T' a w ∧ Vals l pr T S E T') ⟨E0, T, H.move H.hp.drew, fun _ _ h => h, fun _ _ h => by cases h⟩ ?_ ?_
  · rintro i o S a w ho ⟨E, T', HS, hV⟩ hSi hclo hdesc
    have h := allI_get hstep i o ho
    rw [Nat.zero_add] at h
    exact h S E T' a w hSi hclo hdesc HS hV
  · rintro S a w hall ⟨E, T', HS, hV⟩
    exact hend S E T' a w hall HS hV
theorem Vals.add {pr : ε → Nat → Value → Prop} {S : Nat → Bool} {E : ε} (h : Vals l pr T S E T') {t : Nat} {u : Value} (hu : lk T' t = some u) : Vals l pr T S E ((t, u) :: T') := by
  have e : ∀ s v, lk T' s = some v → lk ((t, u) :: T') s = some v := fun s v hs => by
    by_cases hst : t = s
    · subst hst; rw [hu] at hs; cases hs; exact lk_cons_self _ _ _
    · rw [lk_cons_ne hst]; exact hs
  exact ⟨fun s v hs => e s v (h.1 s v hs), fun i d hi hd => by
    obtain ⟨v, h1, h2⟩ := h.2 i d hi hd
    exact ⟨v, e d v h1, h2⟩⟩
theorem St.addT {a : Act} {w : World} (H : St N D w0 F G0 G L T a w) {t : Nat} {u : Value} (h : lk T t = some u) : St N D w0 F G0 G L ((t, u) :: T) a w := H.addS (H.get t u h)
end
end Go.Proofs.YtpmcdlhhfbobfaaDoor
