/-
  Regions that draw the order of their operations: an invariant over the operations that are done.
-/
import Derived.Test.YtpmcdlhhfbobfaaDoorRep
import Derived.OrdersIn
namespace Go.Proofs.YtpmcdlhhfbobfaaDoor
open Go.RowKit
def depsOf (l : List Oper) (i : Nat) : List Nat := match l[i]? with | some o => (o.after.toList.filter (Region.binds .any)).map (·.on) | none => []
def dstOf (l : List Oper) (i : Nat) : Option Nat := (l[i]?).bind (·.dst)
/-- clo: what comes ahead of each operation, in whatever order. -/
def drawOk (l : List Oper) (clo : List (List Nat)) : Bool :=
  (List.range l.length).all fun i => (depsOf l i).all (fun j => Nat.blt j i) && (clo.getD i []).all fun j => (depsOf l i).contains j || (depsOf l i).any fun k => Nat.blt k i && (clo.getD k []).contains j
def setT (S : Nat → Bool) (i : Nat) : Nat → Bool := fun j => if j = i then true else S j
section
variable {r : Option Nat} {P : Program} {Q : Exit → Act → World → Prop} {l : List Oper} {clo : List (List Nat)} {a : Act} {w : World}
theorem clo_spec (hk : drawOk l clo = true) {S : Nat → Bool} (hd : ∀ i, S i = true → ∀ j ∈ depsOf l i, S j = true) : ∀ i, i < l.length → (∀ j ∈ depsOf l i, S j = true) → ∀ j ∈ clo.getD i [], S j = true := by
  intro i
  induction i using Nat.strongRecOn with
  | _ i ih =>
    intro hi hdi j hj
    have h1 := List.all_eq_true.1 hk i (List.mem_range.2 hi)
    simp only [Bool.and_eq_true, List.all_eq_true] at h1
    have h2 := h1.2 j hj
    simp only [Bool.or_eq_true, List.contains_iff_mem, List.any_eq_true, Bool.and_eq_true] at h2
    rcases h2 with h2 | ⟨k, hk1, hk2, hk3⟩
    · exact hdi j h2
    · have hlt : k < i := Eq.mp Nat.blt_eq hk2
      exact ih k hlt (by omega) (hd k (hdi k hk1)) j hk3
theorem wpOp_of_WL {ops : Array Oper} {i : Nat} {o : Oper} {K : Act → World → Prop} (ho : ops[i]? = some o) (h : WL r P ops (fun e a' w' => e = .normal ∧ K a' w') [o] a w) : wpOpIn (FW r) 0 P ops Q i K a w := by
  unfold wpOpIn
  simp only [ho]
  have h' : wpListIn (FW r) 0 P ops (fun e a' w' => e = .normal ∧ K a' w') [o] a w := h
  unfold wpListIn at h'
  by_cases hw : Region.wanted o (yielded ops a.tmps) = true
  · rw [if_pos hw] at h' ⊢
    refine ⟨fun _ _ => trivial, ?_⟩
    have h2 := h'.2
    generalize (o.semAt (FW r).round a.eval).run P w = res at h2 ⊢
    cases res with
    | ok x w1 =>
      cases x with
      | value v => exact h2.2
      | skip => exact h2.2
      | defer d => exact h2.2
      | enter f args => exact ⟨h2.1, h2.2.mono fun e w2 he => by
          cases e with
          | returned v => exact he.2
          | panicked ch => exact absurd he.1 (by simp)
          | outgrown => obtain ⟨_, _, h3, _⟩ := he; exact absurd h3 (by simp)⟩
      | row rw_ args => exact ⟨h2.1, h2.2.mono fun v w2 he => he.2⟩
      | round l f t as b => exact ⟨h2.1, h2.2.mono fun e w2 he => by
          cases e with
          | returned v => exact he.2
          | panicked ch => exact absurd he.1 (by simp)
          | outgrown => obtain ⟨_, _, h3, _⟩ := he; exact absurd h3 (by simp)⟩
      | _ => exact h2.elim
    | halt x w1 =>
      cases x with
      | panic v => exact absurd h2.1 (by simp)
      | _ => exact h2.elim
  · rw [if_neg hw] at h' ⊢
    exact ⟨fun _ _ => trivial, h'.2.2⟩
theorem count_set {L : List Bool} : ∀ {i : Nat}, L[i]? = some false → (L.set i true).count false + 1 = L.count false := by
  induction L with
  | nil => intro i h; simp at h
  | cons b L ih =>
    intro i h
    cases i with
    | zero => simp at h; subst h; simp
    | succ i =>
      simp only [List.getElem?_cons_succ] at h
      have := ih h
      simp only [List.set_cons_succ, List.count_cons]
      omega
/-- The rule. -/
theorem c_draw {id : Nat} (hm : P.follows .mixedOrders = true) (clo : List (List Nat)) (hk : drawOk l clo = true) (X : (Nat → Bool) → Act → World → Prop) (h0 : X (fun _ => false) a w.drew)
    (hstep : ∀ i o S a w, l[i]? = some o → X S a w → S i = false → (∀ j ∈ clo.getD i [], S j = true) → (∀ j, j < l.length → i ∈ clo.getD j [] → S j = false) → WL r P l.toArray (fun e a' w' => e = .normal ∧ X (setT S i) a' w') [o] a w)
    (hend : ∀ S a w, (∀ i, i < l.length → S i = true) → X S a w → Q .normal a w) : WP r P (.region id l.toArray true) Q a w := by
  have key : ∀ (fuel : Nat) (listed : Array Bool) (S : Nat → Bool) (a : Act) (w : World), listed.size = l.length → (∀ i, i < l.length → listed[i]? = some (S i)) → listed.toList.count false ≤ fuel → (∀ i, i < l.length → S i = true → ∀ j ∈ depsOf l i, S j = true) → (∀ i, l.length ≤ i → S i = false) → X S a w →
      wpAnyIn (FW r) 0 P .any l.toArray Q fuel listed a w := by
    intro fuel
    induction fuel with
    | zero =>
      intro listed S a w hsz hS hc hdn hbig hX
      have hall : ∀ i, i < l.length → S i = true := by
        intro i hi
        cases hSi : S i with
        | true => rfl
        | false =>
          have h1 := hS i hi
          rw [hSi] at h1
          have : false ∈ listed.toList := List.mem_of_getElem? (by simpa using h1)
          have := List.count_pos_iff.2 this
          omega
      refine ⟨?_, hend S a w hall hX⟩
      apply List.eq_nil_iff_forall_not_mem.2
      intro i hi
      obtain ⟨h1, o, ho, -⟩ := mem_ready.1 hi
      have hil : i < l.length := by simpa using (Array.getElem?_eq_some_iff.1 ho).1
      have h2 := hS i hil
      rw [hall i hil] at h2
      rw [Array.getD_eq_getD_getElem?, h2] at h1
      cases h1
    | succ fuel ih =>
      intro listed S a w hsz hS hc hdn hbig hX
      have hget : ∀ i d, i < l.length → listed.getD i d = S i := fun i d hi => by rw [Array.getD_eq_getD_getElem?, hS i hi]; rfl
      refine ⟨fun hnil => ?_, fun i hi => ?_⟩
      · by_cases hall : ∀ i, i < l.length → S i = true
        · exact hend S a w hall hX
        · exfalso
          have hex : ∃ i, i < l.length ∧ S i = false := by
            apply Classical.byContradiction
            intro hno
            apply hall
            intro i hi
            cases hSi : S i with
            | true => rfl
            | false => exact absurd ⟨i, hi, hSi⟩ hno
          obtain ⟨i, hi, hSi, hmin⟩ : ∃ i, i < l.length ∧ S i = false ∧ ∀ j, j < i → S j = true := by
            obtain ⟨i0, hi0, hs0⟩ := hex
            clear hall
            induction i0 using Nat.strongRecOn with
            | _ i0 ihh =>
              by_cases hlt : ∃ j, j < i0 ∧ S j = false
              · obtain ⟨j, hj, hsj⟩ := hlt
                exact ihh j hj (by omega) hsj
              · refine ⟨i0, hi0, hs0, fun j hj => ?_⟩
                cases hSj : S j with
                | true => rfl
                | false => exact absurd ⟨j, hj, hSj⟩ hlt
          have hr : i ∈ Region.ready .any l.toArray listed := by
            rw [mem_ready]
            refine ⟨by rw [hget i true hi, hSi], l[i], by simp [hi], fun e he hb => ?_⟩
            have hk1 := List.all_eq_true.1 hk i (List.mem_range.2 hi)
            simp only [Bool.and_eq_true, List.all_eq_true] at hk1
            have hin : e.on ∈ depsOf l i := by
              simp only [depsOf, List.getElem?_eq_getElem hi, List.mem_map, List.mem_filter]
              exact ⟨e, ⟨by simpa using he, hb⟩, rfl⟩
            have hlt : e.on < i := Eq.mp Nat.blt_eq (hk1.1 _ hin)
            rw [hget _ _ (by omega)]
            exact hmin _ hlt
          rw [hnil] at hr
          cases hr
      · obtain ⟨h1, o, ho, hdeps⟩ := mem_ready.1 hi
        have hil : i < l.length := by simpa using (Array.getElem?_eq_some_iff.1 ho).1
        have ho' : l[i]? = some o := by simpa using ho
        have hSi : S i = false := by rw [← hget i true hil]; exact h1
        have hdi : ∀ j ∈ depsOf l i, S j = true := by
          intro j hj
          simp only [depsOf, ho', List.mem_map, List.mem_filter] at hj
          obtain ⟨e, ⟨he, hb⟩, rfl⟩ := hj
          have h2 := hdeps e (by simpa using he) hb
          by_cases hjl : e.on < l.length
          · rwa [hget _ _ hjl] at h2
          · have hk1 := List.all_eq_true.1 hk i (List.mem_range.2 hil)
            simp only [Bool.and_eq_true, List.all_eq_true] at hk1
            have hin : e.on ∈ depsOf l i := by
              simp only [depsOf, ho', List.mem_map, List.mem_filter]
              exact ⟨e, ⟨he, hb⟩, rfl⟩
            have hlt : e.on < i := Eq.mp Nat.blt_eq (hk1.1 _ hin)
            omega
        have hdn' : ∀ i, S i = true → ∀ j ∈ depsOf l i, S j = true := by
          intro k hk' j hj
          by_cases hkl : k < l.length
          · exact hdn k hkl hk' j hj
          · rw [hbig k (by omega)] at hk'; cases hk'
        refine wpOp_of_WL ho ?_
        have hs := hstep i o S a w ho' hX hSi (clo_spec hk hdn' i hil hdi) (fun j hjl hj => by
          cases hSj : S j with
          | false => rfl
          | true => have := clo_spec hk hdn' j hjl (hdn j hjl hSj) i hj; rw [this] at hSi; cases hSi)
        have hmono : ∀ e a' w', (e = Exit.normal ∧ X (setT S i) a' w') → (e = Exit.normal ∧ wpAnyIn (FW r) 0 P .any l.toArray Q fuel (listed.setIfInBounds i true) a' w') := by
          rintro e a' w' ⟨he, hX'⟩
          refine ⟨he, ih _ (setT S i) a' w' (by simpa using hsz) (fun j hj => ?_) ?_ (fun j hj hSj q hq => ?_) (fun j hj => ?_) hX'⟩
          · rw [Array.getElem?_setIfInBounds]
            unfold setT
            by_cases e : i = j
            · subst e; simp [hsz, hil]
            · rw [if_neg e, if_neg (Ne.symm e)]; exact hS j hj
          · have h3 : listed.toList[i]? = some false := by have := hS i hil; rw [hSi] at this; simpa using this
            have := count_set h3
            simp only [Array.toList_setIfInBounds]
            omega
          · unfold setT at hSj ⊢
            split
            · rfl
            · split at hSj
              · rename_i e; subst e; exact hdi q hq
              · exact hdn j hj hSj q hq
          · unfold setT
            rw [if_neg (by omega)]
            exact hbig j hj
        have hs' : wpListIn (FW r) 0 P l.toArray (fun e a' w' => e = .normal ∧ X (setT S i) a' w') [o] a w := hs
        show wpListIn (FW r) 0 P l.toArray _ [o] a w
        unfold wpListIn at hs' ⊢
        split
        · rename_i hw
          rw [if_pos hw] at hs'
          refine ⟨fun _ _ => trivial, ?_⟩
          have h2 := hs'.2
          generalize (o.semAt (FW r).round a.eval).run P w = res at h2 ⊢
          cases res with
          | ok x w1 =>
            cases x with
            | value v => exact hmono _ _ _ h2
            | skip => exact hmono _ _ _ h2
            | defer d => exact hmono _ _ _ h2
            | enter f args => exact ⟨h2.1, h2.2.mono fun e w2 he => by
                cases e with
                | returned v => exact hmono _ _ _ he
                | panicked ch => exact absurd he.1 (by simp)
                | outgrown => obtain ⟨_, _, h3, _⟩ := he; exact absurd h3 (by simp)⟩
            | row rw_ args => exact ⟨h2.1, h2.2.mono fun v w2 he => hmono _ _ _ he⟩
            | round l f t as b => exact ⟨h2.1, h2.2.mono fun e w2 he => by
                cases e with
                | returned v => exact hmono _ _ _ he
                | panicked ch => exact absurd he.1 (by simp)
                | outgrown => obtain ⟨_, _, h3, _⟩ := he; exact absurd h3 (by simp)⟩
            | _ => exact h2.elim
          | halt x w1 =>
            cases x with
            | panic v => exact absurd h2.1 (by simp)
            | _ => exact h2.elim
        · rename_i hw
          rw [if_neg hw] at hs'
          exact ⟨fun _ _ => trivial, hmono _ _ _ hs'.2⟩
  refine wpIn_region_any hm (key _ _ (fun _ => false) a w.drew (by simp) (fun i hi => by simp [hi]) ?_ (fun _ _ h => by cases h) (fun _ _ => rfl) h0)
  simp
end

/-! ## The rule over states: values in any order, then a tail in the text's order -/
def full (N : Nat) (a : Act) : List (Nat × Value) := (List.range N).map fun t => (t, a.tmps.getD t undef)
theorem lk_append (T U : List (Nat × Value)) (t : Nat) : lk (T ++ U) t = match lk T t with | some v => some v | none => lk U t := by
  induction T with
  | nil => rfl
  | cons p T ih =>
    obtain ⟨s, v⟩ := p
    by_cases e : s = t
    · subst e; rw [List.cons_append, lk_cons_self, lk_cons_self]
    · rw [List.cons_append, lk_cons_ne e, lk_cons_ne e, ih]
theorem lk_map (f : Nat → Value) : ∀ (L : List Nat) (t : Nat), t ∈ L → lk (L.map fun t => (t, f t)) t = some (f t)
  | [], _, h => by cases h
  | s :: L, t, h => by
    simp only [List.map_cons]
    by_cases e : s = t
    · subst e; rw [lk_cons_self]
    · rw [lk_cons_ne e]
      exact lk_map f L t ((List.mem_cons.1 h).resolve_left (Ne.symm e))
theorem lk_full {N t : Nat} (a : Act) (h : t < N) : lk (full N a) t = some (a.tmps.getD t undef) := lk_map (fun t => a.tmps.getD t undef) _ t (List.mem_range.2 h)
section
variable {N : Nat} {D : List Deferred} {w0 : World} {F : Nat → Prop} {G0 G G1 G2 : GH} {L L1 L2 : OL} {T Xs : List (Nat × Value)}
variable {r : Option Nat} {P : Program} {Q : Exit → Act → World → Prop} {l : List Oper} {a a' : Act} {w w' : World}
theorem St.full (H : St N D w0 F G0 G L T a w) : St N D w0 F G0 G L (T ++ full N a) a w := by
  refine ⟨H.asz, fun t v ht => ?_, H.dfr, H.hp⟩
  rw [lk_append] at ht
  cases hT : lk T t with
  | some u => rw [hT] at ht; simp only [Option.some.injEq] at ht; subst ht; exact H.get t u hT
  | none =>
    rw [hT] at ht
    by_cases hlt : t < N
    · rw [lk_full a hlt] at ht
      simp only [Option.some.injEq] at ht
      have h2 : t < a.tmps.size := by rw [H.asz]; exact hlt
      rw [← ht, Array.getD_eq_getD_getElem?, Array.getElem?_eq_getElem h2]
      rfl
    · exfalso
      have : ∀ (L : List Nat), t ∉ L → lk (L.map fun t => (t, a.tmps.getD t undef)) t = none := by
        intro L
        induction L with
        | nil => intro _; rfl
        | cons s L ih => intro h; simp only [List.map_cons]; rw [lk_cons_ne (fun e => h (by simp [e])), ih (fun h' => h (by simp [h']))]
      rw [show lk (Proofs.YtpmcdlhhfbobfaaDoor.full N a) t = none from this _ (by simp; omega)] at ht
      cases ht
theorem St.addS (H : St N D w0 F G0 G L T a w) {t : Nat} {v : Value} (h : a.tmps[t]? = some v) : St N D w0 F G0 G L ((t, v) :: T) a w :=
  ⟨H.asz, fun s u hs => by
    by_cases e : t = s
    · subst e; rw [lk_cons_self] at hs; simp only [Option.some.injEq] at hs; subst hs; exact h
    · rw [lk_cons_ne e] at hs; exact H.get s u hs, H.dfr, H.hp⟩
/-- What holds when the operations S are done. -/
def DX (N : Nat) (D : List Deferred) (w0 : World) (F : Nat → Prop) (G0 G : GH) (L : OL) (T : List (Nat × Value)) (l : List Oper) (pr : Nat → Value → GH → Prop) (S : Nat → Bool) (a : Act) (w : World) : Prop :=
  ∃ G1, (∀ k o, G k = some o → G1 k = some o) ∧ St N D w0 F G0 G1 L T a w ∧ ∀ i d, S i = true → dstOf l i = some d → ∃ v, a.tmps[d]? = some v ∧ pr i v G1
/-- The slot that operation i of l fills is new, and no other one fills it. -/
def dst1 (l : List Oper) (T : List (Nat × Value)) (i : Nat) : Bool :=
  match dstOf l i with | none => true | some d => (lk T d).isNone && (List.range l.length).all fun j => bif Nat.beq i j then true else !(dstOf l j == some d)
def dstOk (l : List Oper) (T : List (Nat × Value)) : Bool :=
  (List.range l.length).all (dst1 l T)
theorem dst1_of {l : List Oper} {T : List (Nat × Value)} (h : dstOk l T = true) {i : Nat} (hi : i < l.length) : dst1 l T i = true := List.all_eq_true.1 h i (List.mem_range.2 hi)
theorem draw_val {pr : Nat → Value → GH → Prop} {S : Nat → Bool} {i d : Nat} {v : Value} (hok : dst1 l T i = true) (hprm : ∀ i v (G G' : GH), (∀ k o, G k = some o → G' k = some o) → pr i v G → pr i v G') (hi : dstOf l i = some d) (hdl : Nat.blt i l.length = true)
    (HT : St N D w0 F G0 G1 L T a w) (Hb : St N D w0 F G0 G1 L (Xs ++ full N a) a w) (hG : ∀ k o, G k = some o → G1 k = some o) (hv : ∀ i d, S i = true → dstOf l i = some d → ∃ v, a.tmps[d]? = some v ∧ pr i v G1)
    (hG2 : ∀ k o, G1 k = some o → G2 k = some o) (hp : pr i v G2) (H : St N D w0 F G0 G2 L ((d, v) :: (Xs ++ full N a)) a' w') : DX N D w0 F G0 G L T l pr (setT S i) a' w' := by
  have hil : i < l.length := Eq.mp Nat.blt_eq hdl
  have hok1 := hok
  rw [dst1, hi] at hok1
  simp only [Bool.and_eq_true, Option.isNone_iff_eq_none, List.all_eq_true, List.mem_range] at hok1
  have hsame : ∀ t, t ≠ d → a'.tmps[t]? = a.tmps[t]? := by
    intro t ht
    by_cases hlt : t < N
    · have h1 : ∃ u, lk (Xs ++ full N a) t = some u := by
        rw [lk_append]
        cases lk Xs t with
        | some u => exact ⟨u, rfl⟩
        | none => exact ⟨_, lk_full a hlt⟩
      obtain ⟨u, hu⟩ := h1
      rw [Hb.get t u hu, H.get t u (by rw [lk_cons_ne (Ne.symm ht)]; exact hu)]
    · rw [Array.getElem?_eq_none (by rw [H.asz]; omega), Array.getElem?_eq_none (by rw [Hb.asz]; omega)]
  refine ⟨G2, fun k o hk => hG2 k o (hG k o hk), ⟨H.asz, fun t u ht => ?_, H.dfr, H.hp⟩, fun j e hj he => ?_⟩
  · rw [hsame t (fun e => by rw [e, hok1.1] at ht; cases ht)]
    exact HT.get t u ht
  · by_cases hji : j = i
    · subst hji
      rw [hi] at he
      simp only [Option.some.injEq] at he
      subst he
      exact ⟨v, H.get d v (lk_cons_self _ _ _), hp⟩
    · have hSj : S j = true := by unfold setT at hj; rwa [if_neg hji] at hj
      obtain ⟨u, hu1, hu2⟩ := hv j e hSj he
      have hjl : j < l.length := by
        unfold dstOf at he
        by_cases hl : j < l.length
        · exact hl
        · rw [List.getElem?_eq_none (by omega)] at he; cases he
      have hne : e ≠ d := by
        intro e'
        subst e'
        have h2 := hok1.2 j hjl
        have hb : Nat.beq i j = false := by
          cases h : Nat.beq i j with
          | false => rfl
          | true => exact absurd (Nat.eq_of_beq_eq_true h).symm hji
        rw [hb, he] at h2
        simp at h2
      exact ⟨u, by rw [hsame e hne]; exact hu1, hprm j u _ _ hG2 hu2⟩
/-- B: the tail, each of which comes behind all that are not in B and behind those of B that stand ahead of it. -/
def tailOk (l : List Oper) (clo : List (List Nat)) (B : List Nat) : Bool :=
  (List.range B.length).all (fun p => match B[p]? with | none => false | some b => Nat.blt b l.length && (List.range l.length).all fun i => B.contains i && !(B.take p).contains i || (clo.getD b []).contains i) &&
  (List.range l.length).all fun i => B.contains i || (clo.getD i []).all fun j => !B.contains j
def opsAt (l : List Oper) : List Nat → List Oper
  | [] => []
  | b :: B => match l[b]? with | some o => o :: opsAt l B | none => opsAt l B
theorem wl_mono {ops : Array Oper} {Q' : Exit → Act → World → Prop} (hq : ∀ e a w, Q e a w → Q' e a w) : ∀ {L : List Oper} {a : Act} {w : World}, WL r P ops Q L a w → WL r P ops Q' L a w
  | [], a, w, h => hq _ _ _ h
  | o :: L, a, w, h => by
    have h' : wpListIn (FW r) 0 P ops Q (o :: L) a w := h
    show wpListIn (FW r) 0 P ops Q' (o :: L) a w
    unfold wpListIn at h' ⊢
    split
    · rename_i hw
      rw [if_pos hw] at h'
      refine ⟨h'.1, ?_⟩
      have h2 := h'.2
      generalize (o.semAt (FW r).round a.eval).run P w = res at h2 ⊢
      cases res with
      | ok x w1 =>
        cases x with
        | value v => exact wl_mono hq h2
        | skip => exact wl_mono hq h2
        | defer d => exact wl_mono hq h2
        | enter f args => exact ⟨h2.1, h2.2.mono fun e w2 he => by
            cases e with
            | returned v => exact wl_mono hq he
            | panicked ch => exact hq _ _ _ he
            | outgrown => obtain ⟨x, y, h3⟩ := he; exact ⟨x, y, hq _ _ _ h3⟩⟩
        | row rw_ args => exact ⟨h2.1, h2.2.mono fun v w2 he => wl_mono hq he⟩
        | round l f t as b => exact ⟨h2.1, h2.2.mono fun e w2 he => by
            cases e with
            | returned v => exact wl_mono hq he
            | panicked ch => exact hq _ _ _ he
            | outgrown => obtain ⟨x, y, h3⟩ := he; exact ⟨x, y, hq _ _ _ h3⟩⟩
        | _ => exact h2.elim
      | halt x w1 =>
        cases x with
        | panic v => exact hq _ _ _ h2
        | _ => exact h2.elim
    · rename_i hw
      rw [if_neg hw] at h'
      exact ⟨h'.1, wl_mono hq h'.2⟩
theorem wl_split {ops : Array Oper} {o : Oper} {L : List Oper} {K : Act → World → Prop} (hK : ∀ a w, WL r P ops (fun e a w => e = .normal ∧ Q .normal a w) L a w → K a w) (h : WL r P ops (fun e a w => e = .normal ∧ Q .normal a w) (o :: L) a w) : WL r P ops (fun e a' w' => e = .normal ∧ K a' w') [o] a w := by
  have h' : wpListIn (FW r) 0 P ops (fun e a w => e = .normal ∧ Q .normal a w) (o :: L) a w := h
  show wpListIn (FW r) 0 P ops _ [o] a w
  unfold wpListIn at h' ⊢
  split
  · rename_i hw
    rw [if_pos hw] at h'
    refine ⟨h'.1, ?_⟩
    have h2 := h'.2
    generalize (o.semAt (FW r).round a.eval).run P w = res at h2 ⊢
    cases res with
    | ok x w1 =>
      cases x with
      | value v => exact ⟨rfl, hK _ _ h2⟩
      | skip => exact ⟨rfl, hK _ _ h2⟩
      | defer d => exact ⟨rfl, hK _ _ h2⟩
      | enter f args => exact ⟨h2.1, h2.2.mono fun e w2 he => by
          cases e with
          | returned v => exact ⟨rfl, hK _ _ he⟩
          | panicked ch => exact absurd he.1 (by simp)
          | outgrown => obtain ⟨_, _, h3, _⟩ := he; exact absurd h3 (by simp)⟩
      | row rw_ args => exact ⟨h2.1, h2.2.mono fun v w2 he => ⟨rfl, hK _ _ he⟩⟩
      | round l f t as b => exact ⟨h2.1, h2.2.mono fun e w2 he => by
          cases e with
          | returned v => exact ⟨rfl, hK _ _ he⟩
          | panicked ch => exact absurd he.1 (by simp)
          | outgrown => obtain ⟨_, _, h3, _⟩ := he; exact absurd h3 (by simp)⟩
      | _ => exact h2.elim
    | halt x w1 =>
      cases x with
      | panic v => exact absurd h2.1 (by simp)
      | _ => exact h2.elim
  · rename_i hw
    rw [if_neg hw] at h'
    exact ⟨h'.1, rfl, hK _ _ h'.2⟩
theorem c_drawS {id : Nat} (hm : P.follows .mixedOrders = true) (clo : List (List Nat)) (B : List Nat) (hk : drawOk l clo = true) (hB : tailOk l clo B = true) (pr : Nat → Value → GH → Prop) (hprm : ∀ i v (G G' : GH), (∀ k o, G k = some o → G' k = some o) → pr i v G → pr i v G')
    (H : St N D w0 F G0 G L T a w)
    (hstep : ∀ i o S a w G1, l[i]? = some o → B.contains i = false → S i = false → (∀ j ∈ clo.getD i [], S j = true) → (∀ k o, G k = some o → G1 k = some o) → St N D w0 F G0 G1 L T a w → (∀ i d, S i = true → dstOf l i = some d → ∃ v, a.tmps[d]? = some v ∧ pr i v G1) →
      WL r P l.toArray (fun e a' w' => e = .normal ∧ DX N D w0 F G0 G L T l pr (setT S i) a' w') [o] a w)
    (hend : ∀ a w G1, (∀ k o, G k = some o → G1 k = some o) → St N D w0 F G0 G1 L T a w → (∀ i d, B.contains i = false → dstOf l i = some d → ∃ v, a.tmps[d]? = some v ∧ pr i v G1) → WL r P l.toArray (fun e a w => e = .normal ∧ Q .normal a w) (opsAt l B) a w) : WP r P (.region id l.toArray true) Q a w := by
  have hB1 : ∀ p b, B[p]? = some b → b < l.length ∧ ∀ i, i < l.length → (B.contains i = false ∨ (B.take p).contains i = true) → i ∈ clo.getD b [] := by
    intro p b hp
    simp only [tailOk, Bool.and_eq_true] at hB
    have h1 := List.all_eq_true.1 hB.1 p (List.mem_range.2 (List.getElem?_eq_some_iff.1 hp).1)
    rw [hp] at h1
    simp only [Bool.and_eq_true, List.all_eq_true, List.mem_range] at h1
    refine ⟨Eq.mp Nat.blt_eq h1.1, fun i hi hor => ?_⟩
    have h2 := h1.2 i hi
    rcases hor with h3 | h3
    · have h4 : i ∉ B := by simpa using h3
      simpa [h4] using h2
    · have h4 : i ∈ B.take p := by simpa using h3
      simpa [h4] using h2
  have hB2 : ∀ i, i < l.length → B.contains i = false → ∀ j ∈ clo.getD i [], B.contains j = false := by
    intro i hi hb j hj
    simp only [tailOk, Bool.and_eq_true] at hB
    have h1 := List.all_eq_true.1 hB.2 i (List.mem_range.2 hi)
    rw [hb] at h1
    simp only [Bool.false_or, List.all_eq_true] at h1
    simpa using h1 j hj
  refine c_draw hm clo hk (fun S a w => ((∀ i, B.contains i = true → S i = false) ∧ DX N D w0 F G0 G L T l pr S a w) ∨
      ∃ p, (∀ i, i < l.length → B.contains i = false → S i = true) ∧ (∀ i, (B.take p).contains i = true → S i = true) ∧ (∀ q b, B[q]? = some b → p ≤ q → S b = false) ∧ WL r P l.toArray (fun e a w => e = .normal ∧ Q .normal a w) (opsAt l (B.drop p)) a w)
    (.inl ⟨fun _ _ => rfl, G, fun _ _ h => h, H.move H.hp.drew, fun _ _ h => by cases h⟩) ?_ ?_
  · intro i o S a w ho hX hSi hclo hdesc
    have hil : i < l.length := (List.getElem?_eq_some_iff.1 ho).1
    by_cases hbi : B.contains i = true
    · -- an operation of the tail: all that stands ahead of it is done
      obtain ⟨p0, hp0⟩ := List.getElem?_of_mem (by simpa using hbi : i ∈ B)
      have hall : ∀ j, j < l.length → B.contains j = false → S j = true := fun j hj hb => hclo j ((hB1 p0 i hp0).2 j hj (.inl hb))
      have hphase : ∃ p, (∀ i, (B.take p).contains i = true → S i = true) ∧ (∀ q b, B[q]? = some b → p ≤ q → S b = false) ∧ WL r P l.toArray (fun e a w => e = .normal ∧ Q .normal a w) (opsAt l (B.drop p)) a w := by
        rcases hX with ⟨h1, G1, hG, HS, hv⟩ | ⟨p, _, h2, h3, h4⟩
        · refine ⟨0, by simp, fun q b hq _ => h1 b (by simpa using List.mem_of_getElem? hq), ?_⟩
          refine hend a w G1 hG HS fun j e hb he => ?_
          have hjl : j < l.length := by
            unfold dstOf at he
            by_cases hl : j < l.length
            · exact hl
            · rw [List.getElem?_eq_none (by omega)] at he; cases he
          exact hv j e (hall j hjl hb) he
        · exact ⟨p, h2, h3, h4⟩
      obtain ⟨p, h2, h3, h4⟩ := hphase
      -- i is the next one
      have hpp : p ≤ p0 := by
        rcases Nat.lt_or_ge p0 p with hlt | hge
        · have : (B.take p).contains i = true := by
            simp only [List.contains_iff_mem]
            exact List.mem_of_getElem? (i := p0) (by rw [List.getElem?_take, if_pos hlt]; exact hp0)
          rw [h2 i this] at hSi; cases hSi
        · exact hge
      have hplt : p < B.length := by have := (List.getElem?_eq_some_iff.1 hp0).1; omega
      have hbp : B[p]? = some B[p] := List.getElem?_eq_getElem hplt
      have heq : B[p] = i := by
        rcases Nat.lt_or_ge p p0 with hlt | hge
        · exfalso
          have hin : B[p] ∈ clo.getD i [] := (hB1 p0 i hp0).2 _ (hB1 p _ hbp).1 (.inr (by
            simp only [List.contains_iff_mem]
            exact List.mem_of_getElem? (i := p) (by rw [List.getElem?_take, if_pos hlt]; exact hbp)))
          have := hclo _ hin
          rw [h3 p _ hbp (Nat.le_refl _)] at this; cases this
        · have : p = p0 := by omega
          subst this
          rw [hbp] at hp0; simpa using hp0
      have hdrop : B.drop p = i :: B.drop (p + 1) := by rw [List.drop_eq_getElem_cons hplt, heq]
      have hops : opsAt l (B.drop p) = o :: opsAt l (B.drop (p + 1)) := by rw [hdrop]; simp [opsAt, ho]
      rw [hops] at h4
      refine wl_split (fun a' w' h5 => .inr ⟨p + 1, fun j hj hb => ?_, fun j hj => ?_, fun q b hq hpq => ?_, h5⟩) h4
      · unfold setT; split
        · rfl
        · exact hall j hj hb
      · unfold setT; split
        · rfl
        · rename_i hne
          refine h2 j ?_
          simp only [List.contains_iff_mem] at hj ⊢
          rw [List.take_succ_eq_append_getElem hplt, List.mem_append] at hj
          rcases hj with hj | hj
          · exact hj
          · simp only [List.mem_singleton] at hj; exact absurd (hj.trans heq) hne
      · unfold setT
        rw [if_neg ?_]
        · exact h3 q b hq (by omega)
        · rintro rfl
          -- i would stand twice in B: it would come ahead of itself
          have h6 := (hB1 q b hq).2 b (hB1 q b hq).1 (.inr (by
            simp only [List.contains_iff_mem]
            exact List.mem_of_getElem? (i := p) (by rw [List.getElem?_take, if_pos (by omega)]; rw [hbp, heq])))
          rw [hclo _ h6] at hSi; cases hSi
    · have hbi' : B.contains i = false := by cases h : B.contains i with | false => rfl | true => exact absurd h hbi
      rcases hX with ⟨h1, G1, hG, HS, hv⟩ | ⟨p, h0, _, _, _⟩
      · refine wl_mono (fun e a' w' ⟨he, hD⟩ => ⟨he, .inl ⟨fun j hj => ?_, hD⟩⟩) (hstep i o S a w G1 ho hbi' hSi hclo hG HS hv)
        unfold setT
        rw [if_neg (by rintro rfl; rw [hbi'] at hj; cases hj)]
        exact h1 j hj
      · rw [h0 i hil hbi'] at hSi; cases hSi
  · intro S a w hall hX
    rcases hX with ⟨h1, G1, hG, HS, hv⟩ | ⟨p, _, _, h3, h4⟩
    · have hnil : B = [] := by
        cases B with
        | nil => rfl
        | cons b B => have h5 := h1 b (by simp); rw [hall b (hB1 0 b rfl).1] at h5; cases h5
      subst hnil
      have h6 := hend a w G1 hG HS fun j e _ he => by
        have hjl : j < l.length := by
          unfold dstOf at he
          by_cases hl : j < l.length
          · exact hl
          · rw [List.getElem?_eq_none (by omega)] at he; cases he
        exact hv j e (hall j hjl) he
      exact h6.2
    · have hnil : B.drop p = [] := by
        cases hd : B.drop p with
        | nil => rfl
        | cons b B' =>
          have hb : B[p]? = some b := by
            have := congrArg (fun x : List Nat => x[0]?) hd
            simpa using this
          have h5 := h3 p b hb (Nat.le_refl _)
          rw [hall b (hB1 p b hb).1] at h5; cases h5
      rw [hnil] at h4
      exact h4.2
def allI (φ : Nat → Oper → Prop) : Nat → List Oper → Prop
  | _, [] => True
  | i, o :: r => φ i o ∧ allI φ (i + 1) r
theorem allI_nil {φ : Nat → Oper → Prop} {i : Nat} : allI φ i [] := trivial
theorem allI_cons {φ : Nat → Oper → Prop} {i : Nat} {o : Oper} {r : List Oper} (h : φ i o) (t : allI φ (i + 1) r) : allI φ i (o :: r) := ⟨h, t⟩
theorem allI_get {φ : Nat → Oper → Prop} : ∀ {l : List Oper} {s : Nat}, allI φ s l → ∀ i o, l[i]? = some o → φ (s + i) o
  | [], s, _, i, o, h => by simp at h
  | x :: l, s, h, 0, o, ho => by simp at ho; subst ho; exact h.1
  | x :: l, s, h, i + 1, o, ho => by
    have := allI_get h.2 i o (by simpa using ho)
    rwa [show s + 1 + i = s + (i + 1) by omega] at this
theorem c_drawI {id : Nat} (hm : P.follows .mixedOrders = true) (clo : List (List Nat)) (B : List Nat) (hk : drawOk l clo = true) (hB : tailOk l clo B = true) (pr : Nat → Value → GH → Prop) (hprm : ∀ i v (G G' : GH), (∀ k o, G k = some o → G' k = some o) → pr i v G → pr i v G')
    (H : St N D w0 F G0 G L T a w)
    (hstep : allI (fun i o => ∀ S a w G1, B.contains i = false → S i = false → (∀ j ∈ clo.getD i [], S j = true) → (∀ k o, G k = some o → G1 k = some o) → St N D w0 F G0 G1 L T a w → (∀ i d, S i = true → dstOf l i = some d → ∃ v, a.tmps[d]? = some v ∧ pr i v G1) →
      WL r P l.toArray (fun e a' w' => e = .normal ∧ DX N D w0 F G0 G L T l pr (setT S i) a' w') [o] a w) 0 l)
    (hend : ∀ a w G1, (∀ k o, G k = some o → G1 k = some o) → St N D w0 F G0 G1 L T a w → (∀ i d, B.contains i = false → dstOf l i = some d → ∃ v, a.tmps[d]? = some v ∧ pr i v G1) → WL r P l.toArray (fun e a w => e = .normal ∧ Q .normal a w) (opsAt l B) a w) : WP r P (.region id l.toArray true) Q a w :=
  c_drawS hm clo B hk hB pr hprm H (fun i o S a w G1 ho hb hs hc hg HS hv => by
    have := allI_get hstep i o ho
    rw [Nat.zero_add] at this
    exact this S a w G1 hb hs hc hg HS hv) hend
end
end Go.Proofs.YtpmcdlhhfbobfaaDoor
