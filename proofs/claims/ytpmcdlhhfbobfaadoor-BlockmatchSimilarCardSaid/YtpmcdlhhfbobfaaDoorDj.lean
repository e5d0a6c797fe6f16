/-
  Regions that draw the order of their operations, in which one operation among the others makes what is owned more.
-/
import Derived.Test.YtpmcdlhhfbobfaaDoorDe
namespace Go.Proofs.YtpmcdlhhfbobfaaDoor
open Go.RowKit
section
variable {N : Nat} {D : List Deferred} {w0 : World} {F : Nat → Prop} {G0 G G1 G2 : GH} {L L1 : OL} {T Xs : List (Nat × Value)}
variable {r : Option Nat} {P : Program} {Q : Exit → Act → World → Prop} {l : List Oper} {a a' : Act} {w w' : World}
theorem c_drawG {id : Nat} (hm : P.follows .mixedOrders = true) (clo : List (List Nat)) (B : List Nat) (hk : drawOk l clo = true) (hB : tailOk l clo B = true) (X : (Nat → Bool) → Act → World → Prop) (h0 : X (fun _ => false) a w.drew)
    (hstep : ∀ i o S a w, l[i]? = some o → B.contains i = false → S i = false → (∀ j ∈ clo.getD i [], S j = true) → (∀ j, j < l.length → i ∈ clo.getD j [] → S j = false) → X S a w → WL r P l.toArray (fun e a' w' => e = .normal ∧ X (setT S i) a' w') [o] a w)
    (hend : ∀ S a w, (∀ i, i < l.length → B.contains i = false → S i = true) → (∀ i, B.contains i = true → S i = false) → X S a w → WL r P l.toArray (fun e a w => e = .normal ∧ Q .normal a w) (opsAt l B) a w) : WP r P (.region id l.toArray true) Q a w := by
  have hB1 : ∀ p b, B[p]? = some b → b < l.length ∧ ∀ i, i < l.length → (B.contains i = false ∨ (B.take p).contains i = true) → i ∈ clo.getD b [] := by
    intro p b hp
    simp only [tailOk, Bool.and_eq_true] at hB
    have h1 := List.all_eq_true.1 hB.1 p (List.mem_range.2 (List.getElem?_eq_some_iff.1 hp).1)
    rw [hp] at h1
    simp only [Bool.and_eq_true, List.all_eq_true, List.mem_range] at h1
    refine ⟨Eq.mp Nat.blt_eq h1.1, fun i hi hor => ?_⟩
    have h2 := h1.2 i hi
    rcases hor with h3 | h3
    · have h4 : i ∉ B := by simpa using h3
      simpa [h4] using h2
    · have h4 : i ∈ B.take p := by simpa using h3
      simpa [h4] using h2
  have hB2 : ∀ i, i < l.length → B.contains i = false → ∀ j ∈ clo.getD i [], B.contains j = false := by
    intro i hi hb j hj
    simp only [tailOk, Bool.and_eq_true] at hB
    have h1 := List.all_eq_true.1 hB.2 i (List.mem_range.2 hi)
    rw [hb] at h1
    simp only [Bool.false_or, List.all_eq_true] at h1
    simpa using h1 j hj
  refine c_draw hm clo hk (fun S a w => ((∀ i, B.contains i = true → S i = false) ∧ X S a w) ∨
      ∃ p, (∀ i, i < l.length → B.contains i = false → S i = true) ∧ (∀ i, (B.take p).contains i = true → S i = true) ∧ (∀ q b, B[q]? = some b → p ≤ q → S b = false) ∧ WL r P l.toArray (fun e a w => e = .normal ∧ Q .normal a w) (opsAt l (B.drop p)) a w)
    (.inl ⟨fun _ _ => rfl, h0⟩) ?_ ?_
  · intro i o S a w ho hX hSi hclo hdesc
    have hil : i < l.length := (List.getElem?_eq_some_iff.1 ho).1
    by_cases hbi : B.contains i = true
    · -- an operation of the tail: all that stands ahead of it is done
      obtain ⟨p0, hp0⟩ := List.getElem?_of_mem (by simpa using hbi : i ∈ B)
      have hall : ∀ j, j < l.length → B.contains j = false → S j = true := fun j hj hb => hclo j ((hB1 p0 i hp0).2 j hj (.inl hb))
      have hphase : ∃ p, (∀ i, (B.take p).contains i = true → S i = true) ∧ (∀ q b, B[q]? = some b → p ≤ q → S b = false) ∧ WL r P l.toArray (fun e a w => e = .normal ∧ Q .normal a w) (opsAt l (B.drop p)) a w := by
        rcases hX with ⟨h1, hD⟩ | ⟨p, _, h2, h3, h4⟩
        · exact ⟨0, by simp, fun q b hq _ => h1 b (by simpa using List.mem_of_getElem? hq), hend S a w hall h1 hD⟩
        · exact ⟨p, h2, h3, h4⟩
      obtain ⟨p, h2, h3, h4⟩ := hphase
      -- i is the next one
      have hpp : p ≤ p0 := by
        rcases Nat.lt_or_ge p0 p with hlt | hge
        · have : (B.take p).contains i = true := by
            simp only [List.contains_iff_mem]
            exact List.mem_of_getElem? (i := p0) (by rw [List.getElem?_take, if_pos hlt]; exact hp0)
          rw [h2 i this] at hSi; cases hSi
        · exact hge
      have hplt : p < B.length := by have := (List.getElem?_eq_some_iff.1 hp0).1; omega
      have hbp : B[p]? = some B[p] := List.getElem?_eq_getElem hplt
      have heq : B[p] = i := by
        rcases Nat.lt_or_ge p p0 with hlt | hge
        · exfalso
          have hin : B[p] ∈ clo.getD i [] := (hB1 p0 i hp0).2 _ (hB1 p _ hbp).1 (.inr (by
            simp only [List.contains_iff_mem]
            exact List.mem_of_getElem? (i := p) (by rw [List.getElem?_take, if_pos hlt]; exact hbp)))
          have := hclo _ hin
          rw [h3 p _ hbp (Nat.le_refl _)] at this; cases this
        · have : p = p0 := by omega
          subst this
          rw [hbp] at hp0; simpa using hp0
      have hdrop : B.drop p = i :: B.drop (p + 1) := by rw [List.drop_eq_getElem_cons hplt, heq]
      have hops : opsAt l (B.drop p) = o :: opsAt l (B.drop (p + 1)) := by rw [hdrop]; simp [opsAt, ho]
      rw [hops] at h4
      refine wl_split (fun a' w' h5 => .inr ⟨p + 1, fun j hj hb => ?_, fun j hj => ?_, fun q b hq hpq => ?_, h5⟩) h4
      · unfold setT; split
        · rfl
        · exact hall j hj hb
      · unfold setT; split
        · rfl
        · rename_i hne
          refine h2 j ?_
          simp only [List.contains_iff_mem] at hj ⊢
          rw [List.take_succ_eq_append_getElem hplt, List.mem_append] at hj
          rcases hj with hj | hj
          · exact hj
          · simp only [List.mem_singleton] at hj; exact absurd (hj.trans heq) hne
      · unfold setT
        rw [if_neg ?_]
        · exact h3 q b hq (by omega)
        · rintro rfl
          -- i would stand twice in B: it would come ahead of itself
          have h6 := (hB1 q b hq).2 b (hB1 q b hq).1 (.inr (by
            simp only [List.contains_iff_mem]
            exact List.mem_of_getElem? (i := p) (by rw [List.getElem?_take, if_pos (by omega)]; rw [hbp, heq])))
          rw [hclo _ h6] at hSi; cases hSi
    · have hbi' : B.contains i = false := by cases h : B.contains i with | false => rfl | true => exact absurd h hbi
      rcases hX with ⟨h1, hX⟩ | ⟨p, h0, _, _, _⟩
      · refine wl_mono (fun e a' w' ⟨he, hD⟩ => ⟨he, .inl ⟨fun j hj => ?_, hD⟩⟩) (hstep i o S a w ho hbi' hSi hclo hdesc hX)
        unfold setT
        rw [if_neg (by rintro rfl; rw [hbi'] at hj; cases hj)]
        exact h1 j hj
      · rw [h0 i hil hbi'] at hSi; cases hSi
  · intro S a w hall hX
    rcases hX with ⟨h1, hD⟩ | ⟨p, _, _, h3, h4⟩
    · have hnil : B = [] := by
        cases B with
        | nil => rfl
        | cons b B => have h5 := h1 b (by simp); rw [hall b (hB1 0 b rfl).1] at h5; cases h5
      subst hnil
      exact (hend S a w (fun j hj _ => hall j hj) h1 hD).2
    · have hnil : B.drop p = [] := by
        cases hd : B.drop p with
        | nil => rfl
        | cons b B' =>
          have hb : B[p]? = some b := by
            have := congrArg (fun x : List Nat => x[0]?) hd
            simpa using this
          have h5 := h3 p b hb (Nat.le_refl _)
          rw [hall b (hB1 p b hb).1] at h5; cases h5
      rw [hnil] at h4
      exact h4.2
/-- A region in which one operation (m) makes what is owned more: behind it all stands beside a new block. -/
theorem c_drawJ {id : Nat} (hm : P.follows .mixedOrders = true) (clo : List (List Nat)) (B : List Nat) (hk : drawOk l clo = true) (hB : tailOk l clo B = true) (m : Nat) (hmB : B.contains m = false) (ob : Obj) (pr : Nat → Nat → Value → GH → Prop)
    (hprb : ∀ b b' i v G, i ≠ m → pr b i v G → pr b' i v G) (H : St N D w0 F G0 G L T a w)
    (hstep : allI (fun i o => ∀ b L' S a w G1, B.contains i = false → Nat.beq i m = false → S i = false → (∀ j ∈ clo.getD i [], S j = true) → (∀ k o, G k = some o → G1 k = some o) → St N D w0 F G0 G1 L' T a w → (∀ i d, S i = true → dstOf l i = some d → ∃ v, a.tmps[d]? = some v ∧ pr b i v G1) →
      WL r P l.toArray (fun e a' w' => e = .normal ∧ DX N D w0 F G0 G L' T l (pr b) (setT S i) a' w') [o] a w) 0 l)
    (hmid : ∀ o S a w G1, l[m]? = some o → S m = false → (∀ j ∈ clo.getD m [], S j = true) → (∀ k o, G k = some o → G1 k = some o) → St N D w0 F G0 G1 L T a w → (∀ b i d, i ≠ m → S i = true → dstOf l i = some d → ∃ v, a.tmps[d]? = some v ∧ pr b i v G1) →
      WL r P l.toArray (fun e a' w' => e = .normal ∧ ∃ b, DX N D w0 F G0 G ((b, ob) :: L) T l (pr b) (setT S m) a' w') [o] a w)
    (hend : ∀ b a w G1, (∀ k o, G k = some o → G1 k = some o) → St N D w0 F G0 G1 ((b, ob) :: L) T a w → (∀ i d, B.contains i = false → dstOf l i = some d → ∃ v, a.tmps[d]? = some v ∧ pr b i v G1) → WL r P l.toArray (fun e a w => e = .normal ∧ Q .normal a w) (opsAt l B) a w)
    (hml : Nat.blt m l.length = true) : WP r P (.region id l.toArray true) Q a w := by
  refine c_drawG hm clo B hk hB (fun S a w => ∃ b L', (S m = false → L' = L) ∧ (S m = true → L' = (b, ob) :: L) ∧ DX N D w0 F G0 G L' T l (pr b) S a w)
    ⟨0, L, fun _ => rfl, fun h => absurd (show false = true from h) (by decide), G, fun _ _ h => h, H.move H.hp.drew, fun _ _ h => absurd (show false = true from h) (by decide)⟩ ?_ ?_
  · rintro i o S a w ho hb hSi hclo hdesc ⟨b, L', h1, h2, G1, hG, HS, hv⟩
    by_cases him : i = m
    · subst him
      have e := h1 hSi; subst e
      have h := hmid o S a w G1 ho hSi hclo hG HS fun b' j d hj hSj hd => by
        obtain ⟨v, hv1, hv2⟩ := hv j d hSj hd
        exact ⟨v, hv1, hprb b b' j v _ hj hv2⟩
      have e1 : setT S i i = true := if_pos rfl
      exact wl_mono (fun e a' w' ⟨he, b', hD⟩ => ⟨he, b', _, fun h => absurd (e1.symm.trans h) (by decide), fun _ => rfl, hD⟩) h
    · have h := allI_get hstep i o ho
      rw [Nat.zero_add] at h
      have e : setT S i m = S m := if_neg (fun h => him h.symm)
      exact wl_mono (fun e' a' w' ⟨he, hD⟩ => ⟨he, b, L', fun h => h1 (e ▸ h), fun h => h2 (e ▸ h), hD⟩) (h b L' S a w G1 hb (beq_no him) hSi hclo hG HS hv)
  · rintro S a w hall hnB ⟨b, L', h1, h2, G1, hG, HS, hv⟩
    have hmS : S m = true := hall m (Eq.mp Nat.blt_eq hml) hmB
    have e := h2 hmS; subst e
    exact hend b a w G1 hG HS fun j d hb hd => hv j d (hall j (dstOf_lt hd) hb) hd
/-- The operation that makes what is owned more. -/
theorem draw_mid {pr : Nat → Value → GH → Prop} {S : Nat → Bool} {i d : Nat} {v : Value} (hok : dst1 l T i = true) (hi : dstOf l i = some d) 
    (HT : St N D w0 F G0 G1 L T a w) (Hb : St N D w0 F G0 G1 L (Xs ++ full N a) a w) (hG : ∀ k o, G k = some o → G1 k = some o) (hv : ∀ j d, j ≠ i → S j = true → dstOf l j = some d → ∃ v, a.tmps[d]? = some v ∧ pr j v G1)
    (hp : pr i v G1) (H : St N D w0 F G0 G1 L1 ((d, v) :: (Xs ++ full N a)) a' w') : DX N D w0 F G0 G L1 T l pr (setT S i) a' w' := by
  have hil : i < l.length := dstOf_lt hi
  have hok1 := hok
  rw [dst1, hi] at hok1
  simp only [Bool.and_eq_true, Option.isNone_iff_eq_none, List.all_eq_true, List.mem_range] at hok1
  have hsame : ∀ t, t ≠ d → a'.tmps[t]? = a.tmps[t]? := by
    intro t ht
    by_cases hlt : t < N
    · have h1 : ∃ u, lk (Xs ++ full N a) t = some u := by
        rw [lk_append]
        cases lk Xs t with
        | some u => exact ⟨u, rfl⟩
        | none => exact ⟨_, lk_full a hlt⟩
      obtain ⟨u, hu⟩ := h1
      rw [Hb.get t u hu, H.get t u (by rw [lk_cons_ne (Ne.symm ht)]; exact hu)]
    · rw [Array.getElem?_eq_none (by rw [H.asz]; omega), Array.getElem?_eq_none (by rw [Hb.asz]; omega)]
  refine ⟨G1, hG, ⟨H.asz, fun t u ht => ?_, H.dfr, H.hp⟩, fun j e hj he => ?_⟩
  · rw [hsame t (fun e => by rw [e, hok1.1] at ht; cases ht)]
    exact HT.get t u ht
  · by_cases hji : j = i
    · subst hji
      rw [hi] at he
      simp only [Option.some.injEq] at he
      subst he
      exact ⟨v, H.get d v (lk_cons_self _ _ _), hp⟩
    · have hSj : S j = true := by unfold setT at hj; rwa [if_neg hji] at hj
      obtain ⟨u, hu1, hu2⟩ := hv j e hji hSj he
      have hne : e ≠ d := by
        intro e'
        subst e'
        have h2 := hok1.2 j (dstOf_lt he)
        rw [beq_no (fun h => hji h.symm), he] at h2
        simp at h2
      exact ⟨u, by rw [hsame e hne]; exact hu1, hu2⟩
end
end Go.Proofs.YtpmcdlhhfbobfaaDoor
