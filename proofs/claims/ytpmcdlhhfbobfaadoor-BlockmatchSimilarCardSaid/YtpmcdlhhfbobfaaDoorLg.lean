/-
  A logic of calls over the model's machine: what a frame's slots hold (an association list), what the memory holds (what is read alone: G; what the call owns: L), a step lemma for each kind of operation, rules for code. Nothing here speaks of one program.
-/
import Derived.CallsIn
import Derived.TacticsIn
import Derived.RangeFuncIn
import Derived.RangeFuncLeaves
import Derived.RangeFuncRecord
import Derived.Below
import Derived.KernelRfl
namespace Go.Proofs.YtpmcdlhhfbobfaaDoor
open Go.RowKit

/-! ## The fence -/
def FW (r : Option Nat) : Fence := { Fence.wide with round := r }
theorem FW_fn (r : Option Nat) (f : FuncId) : (FW r).fn f := trivial
theorem FW_none : FW none = Fence.wide := rfl
theorem FW_in (r : Option Nat) (l : Nat) : (FW r).inRound l = FW (some l) := rfl
theorem FW_depth (r : Option Nat) : (FW r).depth.isSome = true → 1 ≤ (0 : Nat) := by intro h; cases h
abbrev WP (r : Option Nat) (P : Program) (c : Code) (Q : Exit → Act → World → Prop) (a : Act) (w : World) : Prop := c.wpIn (FW r) 0 P Q a w
abbrev WL (r : Option Nat) (P : Program) (ops : Array Oper) (Q : Exit → Act → World → Prop) (l : List Oper) (a : Act) (w : World) : Prop := wpListIn (FW r) 0 P ops Q l a w
theorem callsIn_of_calls {r : Option Nat} {n : Nat} {P : Program} {f : FuncId} {args : Array Value} {w : World} {R : Ending → World → Prop} (h : Calls P f args w R) : CallsIn (FW r) n P f args w R := callsIn_wide.2 h
theorem calls_of_callsIn {r : Option Nat} {n : Nat} {P : Program} {f : FuncId} {args : Array Value} {w : World} {R : Ending → World → Prop} (h : CallsIn (FW r) n P f args w R) : Calls P f args w R := callsIn_wide.1 h

/-! ## Slots -/
def lk : List (Nat × Value) → Nat → Option Value
  | [], _ => none
  | (s, v) :: r, t => bif Nat.beq s t then some v else lk r t
theorem lk_cons_self (t : Nat) (v : Value) (T : List (Nat × Value)) : lk ((t, v) :: T) t = some v := by simp [lk]
theorem lk_cons_ne {s t : Nat} (h : s ≠ t) (v : Value) (T : List (Nat × Value)) : lk ((s, v) :: T) t = lk T t := by
  have : Nat.beq s t = false := by
    cases h' : Nat.beq s t with
    | false => rfl
    | true => exact absurd (Nat.eq_of_beq_eq_true h') h
  simp [lk, this]
def ev (T : List (Nat × Value)) : Operand → Option Value
  | .tmp t => lk T t
  | .const v => some v
  | .global g => some (.pointer (some ⟨g, 0, none⟩))
  | .func f => some (.func (.func f) #[] #[])
def evs (T : List (Nat × Value)) : List Operand → Option (List Value)
  | [] => some []
  | x :: r => match ev T x, evs T r with | some v, some vs => some (v :: vs) | _, _ => none

/-! ## Memory -/
abbrev GH := Nat → Option Obj
structure Hp (w0 : World) (F : Nat → Prop) (G0 G : GH) (L : List (Nat × Obj)) (w : World) : Prop where
  os : w.os = w0.os
  tape : w.tape = w0.tape
  output : w.output = w0.output
  size : w0.heap.size ≤ w.heap.size
  fsz : ∀ k, F k → k < w0.heap.size
  fr : ∀ k, F k → w.heap[k]? = w0.heap[k]?
  ro : ∀ k o, G k = some o → w.heap[k]? = some o
  gm : ∀ k o, G0 k = some o → G k = some o
  gx : ∀ k o, G k = some o → G0 k = some o ∨ ¬ F k
  own : ∀ p ∈ L, w.heap[p.1]? = some p.2
  sepG : ∀ p ∈ L, G p.1 = none
  sepF : ∀ p ∈ L, ¬ F p.1
  nd : L.Pairwise fun p q => p.1 ≠ q.1

structure St (N : Nat) (D : List Deferred) (w0 : World) (F : Nat → Prop) (G0 G : GH) (L : List (Nat × Obj)) (T : List (Nat × Value)) (a : Act) (w : World) : Prop where
  asz : a.tmps.size = N
  get : ∀ t v, lk T t = some v → a.tmps[t]? = some v
  dfr : a.defers = D
  hp : Hp w0 F G0 G L w

theorem lt_of_heap {w : World} {k : Nat} {o : Obj} (h : w.heap[k]? = some o) : k < w.heap.size := (Array.getElem?_eq_some_iff.1 h).1


/-! ## Steps of memory -/
/-- One block holds another object; all else is as it was. -/
structure Upd (b : Nat) (o : Obj) (w w' : World) : Prop where
  os : w'.os = w.os
  tape : w'.tape = w.tape
  output : w'.output = w.output
  size : w'.heap.size = w.heap.size
  this : w'.heap[b]? = some o
  others : ∀ k, k ≠ b → w'.heap[k]? = w.heap[k]?
section
variable {N : Nat} {D : List Deferred} {w0 w w' : World} {F : Nat → Prop} {G0 G G' : GH} {L L' : List (Nat × Obj)} {T : List (Nat × Value)} {a : Act} {b : Nat} {o o' : Obj}
theorem Hp.lt (h : Hp w0 F G0 G L w) {p : Nat × Obj} (hp : p ∈ L) : p.1 < w.heap.size := lt_of_heap (h.own p hp)
theorem Hp.alloc (h : Hp w0 F G0 G L w) (o : Obj) : Hp w0 F G0 G ((w.heap.size, o) :: L) (w.alloc o) := by
  have hold : ∀ k, k < w.heap.size → (w.alloc o).heap[k]? = w.heap[k]? := fun k hk => Below.heap_alloc w o k hk
  refine ⟨h.os, h.tape, h.output, by simp; exact Nat.le_succ_of_le h.size, h.fsz, fun k hk => (hold k (Nat.lt_of_lt_of_le (h.fsz k hk) h.size)).trans (h.fr k hk), fun k o' hk => (hold k (lt_of_heap (h.ro k o' hk))).trans (h.ro k o' hk), h.gm, h.gx, ?_, ?_, ?_, ?_⟩
  · intro p hp
    rcases List.mem_cons.1 hp with rfl | hp
    · show (w.heap.push o)[w.heap.size]? = some o; simp
    · exact (hold _ (h.lt hp)).trans (h.own p hp)
  · intro p hp
    rcases List.mem_cons.1 hp with rfl | hp
    · cases hg : G w.heap.size with
      | none => rfl
      | some o' => exact absurd (lt_of_heap (h.ro _ _ hg)) (Nat.lt_irrefl _)
    · exact h.sepG p hp
  · intro p hp
    rcases List.mem_cons.1 hp with rfl | hp
    · intro hf; exact absurd (Nat.lt_of_lt_of_le (h.fsz _ hf) h.size) (Nat.lt_irrefl _)
    · exact h.sepF p hp
  · refine List.pairwise_cons.2 ⟨fun q hq => ?_, h.nd⟩
    have := h.lt hq
    simp only; omega
/-- A step that turns nothing that was there (a callee that only makes memory). -/
theorem Hp.below (h : Hp w0 F G0 G L w) (hb : Below w.heap.size w w') : Hp w0 F G0 G L w' := by
  refine ⟨hb.os.trans h.os, hb.tape.trans h.tape, hb.output.trans h.output, Nat.le_trans h.size hb.size, h.fsz, fun k hk => (hb.block k (Nat.lt_of_lt_of_le (h.fsz k hk) h.size)).trans (h.fr k hk), fun k o hk => (hb.block k (lt_of_heap (h.ro k o hk))).trans (h.ro k o hk), h.gm, h.gx, fun p hp => (hb.block _ (h.lt hp)).trans (h.own p hp), h.sepG, h.sepF, h.nd⟩
/-- What is read alone may grow by new blocks. -/
def Ext (n1 : Nat) (G G' : GH) (w' : World) : Prop := (∀ k o, G k = some o → G' k = some o) ∧ (∀ k o, G' k = some o → G k = some o ∨ n1 ≤ k) ∧ (∀ k o, G' k = some o → w'.heap[k]? = some o)
theorem Hp.belowG (h : Hp w0 F G0 G L w) (hb : Below w.heap.size w w') (hx : Ext w.heap.size G G' w') : Hp w0 F G0 G' L w' := by
  have h' := h.below hb
  refine ⟨h'.os, h'.tape, h'.output, h'.size, h'.fsz, h'.fr, hx.2.2, fun k o hk => hx.1 k o (h.gm k o hk), fun k o hk => ?_, h'.own, fun p hp => ?_, h'.sepF, h'.nd⟩
  · rcases hx.2.1 k o hk with hk | hk
    · exact h.gx k o hk
    · exact .inr fun hf => absurd (Nat.lt_of_lt_of_le (h.fsz k hf) h.size) (by omega)
  · cases hg : G' p.1 with
    | none => rfl
    | some o =>
      rcases hx.2.1 _ _ hg with hk | hk
      · rw [h.sepG p hp] at hk; cases hk
      · exact absurd (h.lt hp) (by omega)
theorem pairwise_set : ∀ {L : List (Nat × Obj)} {i b : Nat} {o o' : Obj}, L.Pairwise (fun p q => p.1 ≠ q.1) → L[i]? = some (b, o) → (L.set i (b, o')).Pairwise fun p q => p.1 ≠ q.1
  | [], _, _, _, _, h, _ => h
  | p :: L, 0, b, o, o', h, hi => by
    simp only [List.getElem?_cons_zero, Option.some.injEq] at hi
    subst hi
    exact List.pairwise_cons.2 ⟨(List.pairwise_cons.1 h).1, (List.pairwise_cons.1 h).2⟩
  | p :: L, i + 1, b, o, o', h, hi => by
    simp only [List.getElem?_cons_succ] at hi
    refine List.pairwise_cons.2 ⟨fun q hq => ?_, pairwise_set (List.pairwise_cons.1 h).2 hi⟩
    rcases List.mem_or_eq_of_mem_set hq with hq | rfl
    · exact (List.pairwise_cons.1 h).1 q hq
    · exact (List.pairwise_cons.1 h).1 (b, o) (List.mem_of_getElem? hi)
theorem nd_ne : ∀ {L : List (Nat × Obj)} {i : Nat} {p q : Nat × Obj}, L.Pairwise (fun p q => p.1 ≠ q.1) → L[i]? = some p → q ∈ L → q.1 = p.1 → q = p
  | [], _, _, _, _, h, _, _ => by simp at h
  | x :: L, 0, p, q, h, hi, hq, e => by
    simp only [List.getElem?_cons_zero, Option.some.injEq] at hi
    subst hi
    rcases List.mem_cons.1 hq with rfl | hq
    · rfl
    · exact absurd e.symm ((List.pairwise_cons.1 h).1 q hq)
  | x :: L, i + 1, p, q, h, hi, hq, e => by
    simp only [List.getElem?_cons_succ] at hi
    rcases List.mem_cons.1 hq with rfl | hq
    · exact absurd e ((List.pairwise_cons.1 h).1 p (List.mem_of_getElem? hi))
    · exact nd_ne (List.pairwise_cons.1 h).2 hi hq e
/-- A store into a block of the call's own. -/
theorem Hp.upd (h : Hp w0 F G0 G L w) {i : Nat} (hi : L[i]? = some (b, o)) (hu : Upd b o' w w') : Hp w0 F G0 G (L.set i (b, o')) w' := by
  have hm : (b, o) ∈ L := List.mem_of_getElem? hi
  refine ⟨hu.os.trans h.os, hu.tape.trans h.tape, hu.output.trans h.output, hu.size ▸ h.size, h.fsz, fun k hk => ?_, fun k o hk => ?_, h.gm, h.gx, fun p hp => ?_, fun p hp => ?_, fun p hp => ?_, pairwise_set h.nd hi⟩
  · exact (hu.others k (fun e => h.sepF _ hm (e ▸ hk))).trans (h.fr k hk)
  · refine (hu.others k (fun e => ?_)).trans (h.ro k o hk)
    have := h.sepG _ hm
    rw [← e, hk] at this; cases this
  · by_cases e : p.1 = b
    · rcases List.mem_or_eq_of_mem_set hp with hp' | rfl
      · obtain ⟨j, hj⟩ := List.getElem?_of_mem hp
        have hib : i < L.length := (List.getElem?_eq_some_iff.1 hi).1
        have hset : (L.set i (b, o'))[i]? = some (b, o') := by simp [hib]
        have := nd_ne (pairwise_set (o' := o') h.nd hi) hset hp e
        rw [this]; exact hu.this
      · exact hu.this
    · rcases List.mem_or_eq_of_mem_set hp with hp | rfl
      · exact (hu.others _ e).trans (h.own p hp)
      · exact absurd rfl e
  · rcases List.mem_or_eq_of_mem_set hp with hp | rfl
    · exact h.sepG p hp
    · exact (h.sepG (b, o) hm : G b = none)
  · rcases List.mem_or_eq_of_mem_set hp with hp | rfl
    · exact h.sepF p hp
    · exact (h.sepF (b, o) hm : ¬ F b)
/-- A draw. -/
theorem Hp.drew (h : Hp w0 F G0 G L w) : Hp w0 F G0 G L w.drew := ⟨h.os, h.tape, h.output, h.size, h.fsz, h.fr, h.ro, h.gm, h.gx, h.own, h.sepG, h.sepF, h.nd⟩
/-- Fewer blocks of one's own. -/
theorem Hp.drop (h : Hp w0 F G0 G L w) (hs : L'.Sublist L) : Hp w0 F G0 G L' w := ⟨h.os, h.tape, h.output, h.size, h.fsz, h.fr, h.ro, h.gm, h.gx, fun p hp => h.own p (hs.subset hp), fun p hp => h.sepG p (hs.subset hp), fun p hp => h.sepF p (hs.subset hp), h.nd.sublist hs⟩
/-- Some of the call's own blocks, in whatever order. -/
theorem Hp.pickT {Pl Pl' Lo : List (Nat × Obj)} (h : Hp w0 F G0 G (Pl ++ Lo) w) (idx : List Nat) (hi : idx.Nodup) (hL : idx.map (fun i => Pl[i]?) = Pl'.map some) : Hp w0 F G0 G (Pl' ++ Lo) w := by
  have hget : ∀ (j : Nat) (p : Nat × Obj), Pl'[j]? = some p → ∃ i : Nat, idx[j]? = some i ∧ Pl[i]? = some p := by
    intro j p hp
    have h1 : (idx.map (fun i => Pl[i]?))[j]? = some (some p) := by rw [hL]; simp [hp]
    rw [List.getElem?_map] at h1
    obtain ⟨i, hi1, hi2⟩ := Option.map_eq_some_iff.1 h1
    exact ⟨i, hi1, hi2⟩
  have hmem : ∀ p ∈ Pl' ++ Lo, p ∈ Pl ++ Lo := by
    intro p hp
    rcases List.mem_append.1 hp with hp | hp
    · obtain ⟨j, hj⟩ := List.getElem?_of_mem hp
      obtain ⟨i, _, hi2⟩ := hget j p hj
      exact List.mem_append_left _ (List.mem_of_getElem? hi2)
    · exact List.mem_append_right _ hp
  have hnd := List.pairwise_append.1 h.nd
  refine ⟨h.os, h.tape, h.output, h.size, h.fsz, h.fr, h.ro, h.gm, h.gx, fun p hp => h.own p (hmem p hp), fun p hp => h.sepG p (hmem p hp), fun p hp => h.sepF p (hmem p hp), List.pairwise_append.2 ⟨?_, hnd.2.1, fun p hp q hq => ?_⟩⟩
  · refine List.pairwise_iff_getElem.2 fun x y hx hy hxy => ?_
    obtain ⟨i, hi1, hi2⟩ := hget x _ (List.getElem?_eq_getElem hx)
    obtain ⟨j, hj1, hj2⟩ := hget y _ (List.getElem?_eq_getElem hy)
    have hij : i ≠ j := by
      intro e
      subst e
      obtain ⟨hx1, hx2⟩ := List.getElem?_eq_some_iff.1 hi1
      obtain ⟨hy1, hy2⟩ := List.getElem?_eq_some_iff.1 hj1
      exact (List.pairwise_iff_getElem.1 hi x y hx1 hy1 hxy) (by rw [hx2, hy2])
    obtain ⟨hi3, hi4⟩ := List.getElem?_eq_some_iff.1 hi2
    obtain ⟨hj3, hj4⟩ := List.getElem?_eq_some_iff.1 hj2
    rcases Nat.lt_or_ge i j with hlt | hge
    · rw [← hi4, ← hj4]; exact List.pairwise_iff_getElem.1 hnd.1 i j hi3 hj3 hlt
    · rw [← hi4, ← hj4]; exact Ne.symm (List.pairwise_iff_getElem.1 hnd.1 j i hj3 hi3 (by omega))
  · obtain ⟨j, hj⟩ := List.getElem?_of_mem hp
    obtain ⟨i, _, hi2⟩ := hget j p hj
    exact hnd.2.2 p (List.mem_of_getElem? hi2) q hq
/-- A block of the call's own is given up to what is read alone. -/
def GH.add (G : GH) (b : Nat) (o : Obj) : GH := fun k => if k = b then some o else G k
theorem GH.add_mono (G : GH) {b : Nat} {o : Obj} (hn : G b = none) (k : Nat) (o' : Obj) (h : G k = some o') : (G.add b o) k = some o' := by
  unfold GH.add; rw [if_neg (fun e => by subst e; rw [hn] at h; cases h)]; exact h
theorem GH.add_self (G : GH) (b : Nat) (o : Obj) : (G.add b o) b = some o := by simp [GH.add]
theorem Hp.giveUp (h : Hp w0 F G0 G L w) (i : Nat) (hi : L[i]? = some (b, o)) : Hp w0 F G0 (G.add b o) (L.eraseIdx i) w := by
  have hm : (b, o) ∈ L := List.mem_of_getElem? hi
  have hsub : (L.eraseIdx i).Sublist L := List.eraseIdx_sublist L i
  have hne : ∀ p ∈ L.eraseIdx i, p.1 ≠ b := by
    intro p hp e
    have h1 := nd_ne h.nd hi (hsub.subset hp) e
    subst h1
    obtain ⟨j, hj, hjp⟩ := List.mem_eraseIdx_iff_getElem?.1 hp
    have hnd := h.nd
    have hij : j ≠ i := hj
    have hlt1 : j < L.length := (List.getElem?_eq_some_iff.1 hjp).1
    have hlt2 : i < L.length := (List.getElem?_eq_some_iff.1 hi).1
    have e1 := (List.getElem?_eq_some_iff.1 hjp).2
    have e2 := (List.getElem?_eq_some_iff.1 hi).2
    rcases Nat.lt_or_ge j i with hlt | hge
    · exact (List.pairwise_iff_getElem.1 hnd j i hlt1 hlt2 hlt) (by rw [e1, e2])
    · exact (List.pairwise_iff_getElem.1 hnd i j hlt2 hlt1 (by omega)) (by rw [e1, e2])
  refine ⟨h.os, h.tape, h.output, h.size, h.fsz, h.fr, fun k o' hk => ?_, fun k o' hk => GH.add_mono G (h.sepG _ hm) k o' (h.gm k o' hk), fun k o' hk => ?_, fun p hp => h.own p (hsub.subset hp), fun p hp => ?_, fun p hp => h.sepF p (hsub.subset hp), h.nd.sublist hsub⟩
  · unfold GH.add at hk
    split at hk
    · rename_i e; subst e; cases hk; exact h.own _ hm
    · exact h.ro k o' hk
  · unfold GH.add at hk
    split at hk
    · rename_i e; subst e; exact .inr (h.sepF _ hm)
    · exact h.gx k o' hk
  · unfold GH.add
    rw [if_neg (hne p hp)]
    exact h.sepG p (hsub.subset hp)

/-! ## Slots and steps -/
theorem St.ev (h : St N D w0 F G0 G L T a w) {x : Operand} {v : Value} (hx : Proofs.YtpmcdlhhfbobfaaDoor.ev T x = some v) : a.eval x = v := by
  cases x with
  | tmp t =>
    have := h.get t v hx
    simp only [Act.eval, Array.getD_eq_getD_getElem?, this, Option.getD_some]
  | const u => simp only [Proofs.YtpmcdlhhfbobfaaDoor.ev, Option.some.injEq] at hx; subst hx; rfl
  | global g => simpa [Proofs.YtpmcdlhhfbobfaaDoor.ev, Act.eval] using hx
  | func f => simpa [Proofs.YtpmcdlhhfbobfaaDoor.ev, Act.eval] using hx
theorem St.evs (h : St N D w0 F G0 G L T a w) : ∀ {xs : List Operand} {vs : List Value}, Proofs.YtpmcdlhhfbobfaaDoor.evs T xs = some vs → xs.map a.eval = vs
  | [], vs, hx => by simp [Proofs.YtpmcdlhhfbobfaaDoor.evs] at hx; subst hx; rfl
  | x :: xs, vs, hx => by
    unfold Proofs.YtpmcdlhhfbobfaaDoor.evs at hx
    split at hx
    · rename_i v vs' h1 h2
      simp only [Option.some.injEq] at hx
      subst hx
      rw [List.map_cons, h.ev h1, h.evs h2]
    · cases hx
theorem St.put (h : St N D w0 F G0 G L T a w) {d : Nat} (hd : Nat.blt d N = true) (v : Value) (H' : Hp w0 F G0 G' L' w') : St N D w0 F G0 G' L' ((d, v) :: T) (a.put (some d) v) w' := by
  have hlt : d < a.tmps.size := by rw [h.asz]; exact Eq.mp Nat.blt_eq hd
  refine ⟨by simp [Act.put, h.asz], fun t u ht => ?_, h.dfr, H'⟩
  simp only [Act.put, Array.getElem?_setIfInBounds]
  by_cases e : d = t
  · subst e
    rw [lk_cons_self] at ht
    simp [hlt]; simpa using ht
  · rw [lk_cons_ne e] at ht
    simp [e]; exact h.get t u ht
theorem St.move (h : St N D w0 F G0 G L T a w) (H' : Hp w0 F G0 G' L' w') : St N D w0 F G0 G' L' T a w' := ⟨h.asz, h.get, h.dfr, H'⟩
/-- Fewer slots. -/
def subT (T : List (Nat × Value)) : List (Nat × Value) → Prop
  | [] => True
  | (t, v) :: r => lk T t = some v ∧ subT T r
theorem subT_lk {T : List (Nat × Value)} : ∀ {T' : List (Nat × Value)}, subT T T' → ∀ {t v}, lk T' t = some v → lk T t = some v
  | [], _, _, _, h => by simp [lk] at h
  | (s, u) :: r, hs, t, v, h => by
    by_cases e : s = t
    · subst e; rw [lk_cons_self] at h; exact h ▸ hs.1
    · rw [lk_cons_ne e] at h; exact subT_lk hs.2 h
theorem St.sub (h : St N D w0 F G0 G L T a w) {T' : List (Nat × Value)} (hs : subT T T') : St N D w0 F G0 G L T' a w := ⟨h.asz, fun t v ht => h.get t v (subT_lk hs ht), h.dfr, h.hp⟩
theorem St.pickT {Pl Pl' Lo : List (Nat × Obj)} (h : St N D w0 F G0 G (Pl ++ Lo) T a w) (idx : List Nat) (hi : idx.Nodup) (hL : idx.map (fun i => Pl[i]?) = Pl'.map some) : St N D w0 F G0 G (Pl' ++ Lo) T a w := ⟨h.asz, h.get, h.dfr, h.hp.pickT idx hi hL⟩
theorem St.dropL (h : St N D w0 F G0 G L T a w) (hs : L'.Sublist L) : St N D w0 F G0 G L' T a w := ⟨h.asz, h.get, h.dfr, h.hp.drop hs⟩
end
end Go.Proofs.YtpmcdlhhfbobfaaDoor
