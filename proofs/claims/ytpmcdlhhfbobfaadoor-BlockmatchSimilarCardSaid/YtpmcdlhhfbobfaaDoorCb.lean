/-
  Calls that turn blocks which they were lent; function values that are called back; ranges over functions.
-/
import Derived.Test.YtpmcdlhhfbobfaaDoorOq
namespace Go.Proofs.YtpmcdlhhfbobfaaDoor
open Go.RowKit
abbrev OL := List (Nat × Obj)
/-- G is read alone, L is owned; both lie in memory, apart. -/
structure Owns (G : GH) (L : OL) (w : World) : Prop where
  ro : Hold G w
  own : ∀ p ∈ L, w.heap[p.1]? = some p.2
  sep : ∀ p ∈ L, G p.1 = none
  nd : L.Pairwise fun p q => p.1 ≠ q.1
/-- What a call does that was lent L and gives back L'. -/
structure Change (w w' : World) (G G' : GH) (L L' : OL) : Prop where
  os : w'.os = w.os
  tape : w'.tape = w.tape
  output : w'.output = w.output
  size : w.heap.size ≤ w'.heap.size
  fr : ∀ k, k < w.heap.size → (∀ p ∈ L, p.1 ≠ k) → w'.heap[k]? = w.heap[k]?
  gm : ∀ k o, G k = some o → G' k = some o
  gx : ∀ k o, G' k = some o → G k = some o ∨ w.heap.size ≤ k ∨ ∃ p ∈ L, p.1 = k
  owns : Owns G' L' w'
  lx : ∀ p ∈ L', w.heap.size ≤ p.1 ∨ ∃ q ∈ L, q.1 = p.1
/-- What may not turn: what lay there when the call began, but for the blocks L0. -/
def Fr (w : World) (L0 : OL) : Nat → Prop := fun k => k < w.heap.size ∧ ∀ p ∈ L0, p.1 ≠ k
section
variable {N : Nat} {D : List Deferred} {w0 w w' : World} {F : Nat → Prop} {G0 G G' : GH} {L L' Li L0 : OL} {T : List (Nat × Value)} {a : Act}
theorem Hp.owns (h : Hp w0 F G0 G (Li ++ L) w) : Owns G L w :=
  ⟨h.ro, fun p hp => h.own p (List.mem_append_right _ hp), fun p hp => h.sepG p (List.mem_append_right _ hp), (List.pairwise_append.1 h.nd).2.1⟩
theorem Hp.change (h : Hp w0 F G0 G (Li ++ L) w) (hc : Change w w' G G' L L') : Hp w0 F G0 G' (Li ++ L') w' := by
  have hnd := List.pairwise_append.1 h.nd
  have hFs : ∀ k, F k → k < w.heap.size := fun k hk => Nat.lt_of_lt_of_le (h.fsz k hk) h.size
  have hLi : ∀ p ∈ Li, p.1 < w.heap.size ∧ ∀ q ∈ L, q.1 ≠ p.1 := fun p hp => ⟨lt_of_heap (h.own p (List.mem_append_left _ hp)), fun q hq e => hnd.2.2 p hp q hq e.symm⟩
  refine ⟨hc.os.trans h.os, hc.tape.trans h.tape, hc.output.trans h.output, Nat.le_trans h.size hc.size, h.fsz, fun k hk => ?_, hc.owns.ro, fun k o hk => hc.gm k o (h.gm k o hk), fun k o hk => ?_, fun p hp => ?_, fun p hp => ?_, fun p hp => ?_, ?_⟩
  · exact (hc.fr k (hFs k hk) fun p hp e => h.sepF p (List.mem_append_right _ hp) (e ▸ hk)).trans (h.fr k hk)
  · rcases hc.gx k o hk with hk | hk | ⟨p, hp, rfl⟩
    · exact h.gx k o hk
    · exact .inr fun hf => absurd (hFs k hf) (by omega)
    · exact .inr (h.sepF p (List.mem_append_right _ hp))
  · rcases List.mem_append.1 hp with hp | hp
    · exact (hc.fr _ (hLi p hp).1 (hLi p hp).2).trans (h.own p (List.mem_append_left _ hp))
    · exact hc.owns.own p hp
  · rcases List.mem_append.1 hp with hp | hp
    · cases hg : G' p.1 with
      | none => rfl
      | some o =>
        rcases hc.gx _ o hg with hk | hk | ⟨q, hq, e⟩
        · rw [h.sepG p (List.mem_append_left _ hp)] at hk; cases hk
        · exact absurd (hLi p hp).1 (by omega)
        · exact absurd e ((hLi p hp).2 q hq)
    · exact hc.owns.sep p hp
  · rcases List.mem_append.1 hp with hp | hp
    · exact h.sepF p (List.mem_append_left _ hp)
    · rcases hc.lx p hp with hk | ⟨q, hq, e⟩
      · exact fun hf => absurd (hFs _ hf) (by omega)
      · exact e ▸ h.sepF q (List.mem_append_right _ hq)
  · refine List.pairwise_append.2 ⟨hnd.1, hc.owns.nd, fun p hp q hq e => ?_⟩
    rcases hc.lx q hq with hk | ⟨q', hq', e'⟩
    · have := (hLi p hp).1; omega
    · exact (hLi p hp).2 q' hq' (e'.trans e.symm)
theorem Hp.toChange (h : Hp w0 (Fr w0 L0) G0 G L w) : Change w0 w G0 G L0 L := by
  have hn : ∀ k, ¬ Fr w0 L0 k → w0.heap.size ≤ k ∨ ∃ p ∈ L0, p.1 = k := by
    intro k hk
    by_cases hlt : k < w0.heap.size
    · right
      apply Classical.byContradiction
      intro hno
      exact hk ⟨hlt, fun p hp e => hno ⟨p, hp, e⟩⟩
    · exact .inl (by omega)
  exact ⟨h.os, h.tape, h.output, h.size, fun k h1 h2 => h.fr k ⟨h1, h2⟩, h.gm, fun k o hk => (h.gx k o hk).imp id (hn k), ⟨h.ro, h.own, h.sepG, h.nd⟩, fun p hp => hn _ (h.sepF p hp)⟩
theorem Owns.hp (h : Owns G L w) : Hp w (Fr w L) G G L w :=
  ⟨rfl, rfl, rfl, Nat.le_refl _, fun _ hk => hk.1, fun _ _ => rfl, h.ro, fun _ _ h => h, fun _ _ h => .inl h, h.own, h.sep, fun p hp hf => hf.2 p hp rfl, h.nd⟩
theorem Change.trans {w2 : World} {G2 : GH} {L2 : OL} (h1 : Change w w' G G' L L') (h2 : Change w' w2 G' G2 L' L2) (hG : Hold G w) (hL : ∀ p ∈ L, p.1 < w.heap.size) : Change w w2 G G2 L L2 := by
  refine ⟨h2.os.trans h1.os, h2.tape.trans h1.tape, h2.output.trans h1.output, Nat.le_trans h1.size h2.size, fun k hk hn => ?_, fun k o hk => h2.gm k o (h1.gm k o hk), fun k o hk => ?_, h2.owns, fun p hp => ?_⟩
  · refine (h2.fr k (Nat.lt_of_lt_of_le hk h1.size) fun p hp e => ?_).trans (h1.fr k hk hn)
    rcases h1.lx p hp with hk' | ⟨q, hq, e'⟩
    · omega
    · exact hn q hq (e'.trans e)
  · rcases h2.gx k o hk with hk | hk | ⟨p, hp, rfl⟩
    · exact h1.gx k o hk
    · exact .inr (.inl (Nat.le_trans h1.size hk))
    · rcases h1.lx p hp with hk' | ⟨q, hq, e'⟩
      · exact .inr (.inl hk')
      · exact .inr (.inr ⟨q, hq, e'⟩)
  · rcases h2.lx p hp with hk | ⟨q, hq, e⟩
    · exact .inl (Nat.le_trans h1.size hk)
    · rcases h1.lx q hq with hk' | ⟨q', hq', e'⟩
      · exact .inl (e ▸ hk')
      · exact .inr ⟨q', hq', e'.trans e⟩
theorem Hp.perm (h : Hp w0 F G0 G L w) (hp : L.Perm L') : Hp w0 F G0 G L' w :=
  ⟨h.os, h.tape, h.output, h.size, h.fsz, h.fr, h.ro, h.gm, h.gx, fun p hq => h.own p (hp.mem_iff.2 hq), fun p hq => h.sepG p (hp.mem_iff.2 hq), fun p hq => h.sepF p (hp.mem_iff.2 hq), (hp.pairwise_iff (fun {x y} (h : x.1 ≠ y.1) e => h e.symm)).1 h.nd⟩
theorem St.perm (h : St N D w0 F G0 G L T a w) (hp : L.Perm L') : St N D w0 F G0 G L' T a w := ⟨h.asz, h.get, h.dfr, h.hp.perm hp⟩
/-- Block i goes to the list's end. -/
def toEnd (L : OL) (i : Nat) : OL := match L[i]? with | some p => L.eraseIdx i ++ [p] | none => L
theorem toEnd_perm : ∀ (L : OL) (i : Nat), L.Perm (toEnd L i)
  | [], i => by simp [toEnd]
  | p :: L, 0 => by simp only [toEnd, List.getElem?_cons_zero, List.eraseIdx_zero, List.tail_cons]; exact (List.perm_append_comm (l₁ := [p]) (l₂ := L))
  | p :: L, i + 1 => by
    have ih := toEnd_perm L i
    unfold toEnd at ih ⊢
    simp only [List.getElem?_cons_succ]
    cases h : L[i]? with
    | none => exact List.Perm.refl _
    | some q => rw [h] at ih; simpa using ih.cons p
/-- A call that was lent L. -/
def RetL (w : World) (G : GH) (L : OL) (R : Value → GH → OL → Prop) : Ending → World → Prop := fun e w' => ∃ v G' L', e = .returned v ∧ Change w w' G G' L L' ∧ R v G' L'
theorem Hp.retL {R : Value → GH → OL → Prop} {v : Value} (h : Hp w0 (Fr w0 L0) G0 G L w) (hR : R v G L) : RetL w0 G0 L0 R (.returned v) w := ⟨v, G, L, rfl, h.toChange, hR⟩
end
section steps
variable {N : Nat} {D : List Deferred} {w0 : World} {F : Nat → Prop} {G0 G : GH} {L Li L0 : OL} {T : List (Nat × Value)}
variable {r : Option Nat} {P : Program} {ops : Array Oper} {Q : Exit → Act → World → Prop} {rest : List Oper} {a : Act} {w : World}
variable {d : Nat} {ty : TypeId} {pos : String} {aft : Array Edge} {g : Option (Nat × Bool)}
theorem callV_func {f : FuncId} {caps args : List Value} {R : Ending → World → Prop} (en : ∀ args w, (callFunc f args).run P w = .ok (.enter f args) w) (h : Calls P f (args ++ caps).toArray w R) : CallV P (.func (.func f) #[] caps.toArray) args w R := by
  refine ⟨?_⟩
  have e : (do let d ← Deferred.ofValue (.func (.func f) #[] caps.toArray) args.toArray; invoke d.target d.args : Sem Next).run P w = .ok (.enter f (args ++ caps).toArray) w := by
    simp [Deferred.ofValue, Sem.run_bind, invoke, en]
  rw [e]
  exact h
theorem s_callv {x : Operand} {fv : Value} {xs : List Operand} {vs : List Value} {ts : Array TypeId} {R : Value → GH → OL → Prop} (H : St N D w0 F G0 G (Li ++ L) T a w) (hw : Region.wanted ⟨some d, .call { callee := .value x, args := xs.toArray, argTypes := ts }, ty, pos, aft, g⟩ (yielded ops a.tmps) = true)
    (hf : ev T x = some fv) (hx : evs T xs = some vs) (hc : CallV P fv vs w (RetL w G L R)) (hd : Nat.blt d N = true)
    (k : ∀ v G' L' a' w', R v G' L' → (∀ k o, G k = some o → G' k = some o) → St N D w0 F G0 G' (Li ++ L') ((d, v) :: T) a' w' → WL r P ops Q rest a' w') : WL r P ops Q (⟨some d, .call { callee := .value x, args := xs.toArray, argTypes := ts }, ty, pos, aft, g⟩ :: rest) a w := by
  refine wl_after (nx := _) (R := RetL w G L R) hw rfl rfl ?_ ?_
  · have h1 := H.evs hx
    have e : (execOp a.eval ⟨some d, .call { callee := .value x, args := xs.toArray, argTypes := ts }, ty, pos, aft, g⟩) = (do let d ← Deferred.ofValue fv vs.toArray; invoke d.target d.args : Sem Next) := by
      simp only [execOp, resolve, H.ev hf, List.map_toArray, h1]
    rw [e]
    exact hc.go
  · rintro e w' ⟨v, G', L', rfl, hb, hR⟩
    exact ⟨v, rfl, k v G' L' _ w' hR hb.gm (H.put hd v (H.hp.change hb))⟩
theorem s_callL {f : FuncId} {xs : List Operand} {vs : List Value} {ts : Array TypeId} {R : Value → GH → OL → Prop} (en : ∀ args w, (callFunc f args).run P w = .ok (.enter f args) w) (H : St N D w0 F G0 G (Li ++ L) T a w) (hw : Region.wanted ⟨some d, .call { callee := .value (.func f), args := xs.toArray, argTypes := ts }, ty, pos, aft, g⟩ (yielded ops a.tmps) = true)
    (hx : evs T xs = some vs) (hc : Calls P f vs.toArray w (RetL w G L R)) (hd : Nat.blt d N = true)
    (k : ∀ v G' L' a' w', R v G' L' → (∀ k o, G k = some o → G' k = some o) → St N D w0 F G0 G' (Li ++ L') ((d, v) :: T) a' w' → WL r P ops Q rest a' w') : WL r P ops Q (⟨some d, .call { callee := .value (.func f), args := xs.toArray, argTypes := ts }, ty, pos, aft, g⟩ :: rest) a w := by
  refine s_callv (fv := .func (.func f) #[] #[]) H hw rfl hx ?_ hd k
  have h := callV_func (caps := []) (args := vs) en (by simpa using hc)
  exact h

/-! ## Function values that are called back -/
/-- What a call's arguments are. -/
abbrev AP := List Value → GH → Prop
def AtAP (xs : List AP) (k : Nat) (args : List Value) (g : GH) : Prop := ∃ p, xs[k]? = some p ∧ p args g
/-- Called at the k-th of the arguments xs, from a state that J k admits, fv hands back a truth value; at 'true' J (k + 1) holds, at 'false' Jx. -/
def Cback (P : Program) (fv : Value) (Gi : GH) (xs : List AP) (J : Nat → GH → OL → Prop) (Jx : GH → OL → Prop) : Prop :=
  ∀ k args G L w, AtAP xs k args G → (∀ b o, Gi b = some o → G b = some o) → J k G L → Owns G L w →
    CallV P fv args w (RetL w G L fun v G' L' => ∃ b, v = .bool b ∧ (b = true → J (k + 1) G' L') ∧ (b = false → Jx G' L'))
def JMono (J : Nat → GH → OL → Prop) : Prop := ∀ k (G G' : GH) L, (∀ b o, G b = some o → G' b = some o) → J k G L → J k G' L
def XMono (J : GH → OL → Prop) : Prop := ∀ (G G' : GH) L, (∀ b o, G b = some o → G' b = some o) → J G L → J G' L
/-- gv is a function that calls what it is handed at each of xs in turn, till it says no. -/
def Iter (P : Program) (Gi : GH) (gv : Value) (xs : List AP) : Prop :=
  ∀ (J : Nat → GH → OL → Prop) (Jx : GH → OL → Prop) (fv : Value) (G : GH) (L : OL) (w : World), fv.cells = #[fv] → (∀ b o, Gi b = some o → G b = some o) → JMono J → XMono Jx → J 0 G L → Owns G L w → Cback P fv G xs J Jx →
    CallV P gv [fv] w (RetL w G L fun _ G' L' => J xs.length G' L' ∨ Jx G' L')
theorem Iter.mono {Gi Gi' : GH} {gv : Value} {xs : List AP} (h : Iter P Gi gv xs) (hm : ∀ b o, Gi b = some o → Gi' b = some o) : Iter P Gi' gv xs :=
  fun J Jx fv G L w h0 h1 => h J Jx fv G L w h0 fun b o hb => h1 b o (hm b o hb)

/-! ## Ranges over functions -/
/-- The loop's variables take what yield was handed. -/
def asg : List Nat → List Value → List (Nat × Value) → List (Nat × Value)
  | p :: ps, v :: vs, T => asg ps vs ((p, v) :: T)
  | _, _, T => T
theorem st_asg : ∀ (ps : List Nat) (vs : List Value) (T : List (Nat × Value)) (tm : Array Value), tm.size = N → (∀ t v, lk T t = some v → tm[t]? = some v) → ps.all (Nat.blt · N) = true →
    ((ps.zip vs).foldl (fun t (x : Nat × Value) => t.setIfInBounds x.1 x.2) tm).size = N ∧ ∀ t v, lk (asg ps vs T) t = some v → ((ps.zip vs).foldl (fun t (x : Nat × Value) => t.setIfInBounds x.1 x.2) tm)[t]? = some v
  | [], _, T, tm, h1, h2, _ => ⟨h1, by simpa [asg] using h2⟩
  | p :: ps, [], T, tm, h1, h2, _ => ⟨h1, by simpa [asg] using h2⟩
  | p :: ps, v :: vs, T, tm, h1, h2, h3 => by
    simp only [List.all_cons, Bool.and_eq_true] at h3
    have hp : p < tm.size := by rw [h1]; exact Eq.mp Nat.blt_eq h3.1
    simp only [List.zip_cons_cons, List.foldl_cons, asg]
    refine st_asg ps vs _ _ (by simpa using h1) (fun t u ht => ?_) h3.2
    rw [Array.getElem?_setIfInBounds]
    by_cases e : p = t
    · subst e; rw [lk_cons_self] at ht; simp [hp]; simpa using ht
    · rw [lk_cons_ne e] at ht; simp [e]; exact h2 t u ht
/-- A loop's record. -/
structure Rec where
  fn : FuncId
  tmps : Array Value
  params : Array Tmp
  assign : Code
  body : Code
  defers : Nat
def Rec.at (q : Rec) (s : LoopState) (p : Option Code) : Obj := .loop { state := s, pending := p, fn := q.fn, tmps := q.tmps, params := q.params, assign := q.assign, body := q.body, defers := q.defers }
/-- What a round owes. -/
def CbR (w1 : World) (G : GH) (L : OL) (Jn : GH → OL → Prop) (Jx : GH → OL → Prop) : Ending → World → Prop := RetL w1 G L fun v G' L' => ∃ b, v = .bool b ∧ (b = true → Jn G' L') ∧ (b = false → Jx G' L')
theorem upd_putObj {b : Nat} {o : Obj} (o' : Obj) (h : w.heap[b]? = some o) : Upd b o' w (w.putObj b o') :=
  ⟨rfl, rfl, rfl, World.putObj_size, World.putObj_heap_same (lt_of_heap h), fun _ hk => World.putObj_heap_other hk⟩
theorem c_begin {l : Nat} {q : Rec} {c : Code} {R : Ending → World → Prop} (H : St N D w0 F G0 G ((l, q.at .ready none) :: L) T a w)
    (k : ∀ w', St N D w0 F G0 G ((l, q.at .busy none) :: L) T a w' → WP (some l) P c (roundPost P l R) a w') :
    ∃ w₂, (Instr.beginRound l).run P w = .ok () w₂ ∧ c.wpIn (FW (some l)) 0 P (roundPost P l R) a w₂ := by
  have hl := H.hp.own _ (List.mem_cons_self)
  refine ⟨_, run_beginRound hl rfl, k _ (H.move ?_)⟩
  exact H.hp.upd (i := 0) rfl (upd_putObj _ hl)
theorem round_end {l : Nat} {q : Rec} {w1 : World} {G1 : GH} {L1 : OL} {Jn Jx : GH → OL → Prop} (jump : Option Code) (H : St N D w1 (Fr w1 L1) G1 G ((l, q.at .busy none) :: L) T a w)
    (h : match jump with | none => Jn G ((l, q.at .ready none) :: L) | some c => Jx G ((l, q.at .done (some c)) :: L)) :
    ∃ v w', (Instr.endRound l jump).run P w = .ok v w' ∧ CbR w1 G1 L1 Jn Jx (.returned v) w' := by
  have hl := H.hp.own _ (List.mem_cons_self)
  refine ⟨_, _, run_endRound jump hl, ?_⟩
  cases jump with
  | none => exact Hp.retL (H.hp.upd (i := 0) rfl (upd_putObj _ hl)) ⟨true, rfl, fun _ => h, fun e => by cases e⟩
  | some c => exact Hp.retL (H.hp.upd (i := 0) rfl (upd_putObj _ hl)) ⟨false, rfl, fun e => (by cases e), fun _ => h⟩
def Jr (l : Nat) (q : Rec) (bk : OL) (J : GH → OL → Prop) : GH → OL → Prop := fun G L => ∃ Lu, L = (l, q.at .ready none) :: (bk ++ Lu) ∧ J G Lu
def Jrx (l : Nat) (q : Rec) (bk : OL) (Jx : Code → GH → OL → Prop) : GH → OL → Prop := fun G L => ∃ c Lu, L = (l, q.at .done (some c)) :: (bk ++ Lu) ∧ Jx c G Lu
/-- A round: the loop's left sides are assigned, the record turns busy, the body is walked. -/
def RoundOk (P : Program) (N : Nat) (ps : List Nat) (assign body : Code) (T : List (Nat × Value)) (G : GH) (J : Nat → GH → OL → Prop) (Jx : Code → GH → OL → Prop) (xs : List AP) : Prop :=
  ∀ (l : Nat) (q : Rec) (bk : OL) (k : Nat) (args : List Value) (G1 : GH) (L1 : OL) (w1 : World) (a1 : Act), AtAP xs k args G1 → (∀ b o, G b = some o → G1 b = some o) → J k G1 L1 →
    St N [] w1 (Fr w1 ((l, q.at .ready none) :: (bk ++ L1))) G1 G1 ((l, q.at .ready none) :: (bk ++ L1)) (asg ps args T) a1 w1 →
    WP (some l) P assign (Exit.then (fun a2 w2 => ∃ w3, (Instr.beginRound l).run P w2 = .ok () w3 ∧ body.wpIn (FW (some l)) 0 P (roundPost P l (CbR w1 G1 ((l, q.at .ready none) :: (bk ++ L1)) (Jr l q bk (J (k + 1))) (Jrx l q bk Jx))) a2 w3) (fun _ _ _ => False)) a1 w1
theorem cback_yield {fn : FuncId} {tm : Array Value} {ps : List Nat} {assign body : Code} {df l : Nat} {bk : OL} {J : Nat → GH → OL → Prop} {Jx : Code → GH → OL → Prop} {xs : List AP} (h1 : tm.size = N) (h2 : ∀ t v, lk T t = some v → tm[t]? = some v)
    (hps : ps.all (Nat.blt · N) = true) (hlen : ∀ k args g, AtAP xs k args g → args.length = ps.length) (hr : RoundOk P N ps assign body T G J Jx xs) :
    Cback P (.func (.yield l) #[] #[]) G xs (fun k => Jr l ⟨fn, tm, ps.toArray, assign, body, df⟩ bk (J k)) (Jrx l ⟨fn, tm, ps.toArray, assign, body, df⟩ bk Jx) := by
  intro k args G1 L1 w1 hk hm hJ ho
  obtain ⟨Lu, rfl, hJ⟩ := hJ
  have hl := ho.own _ (List.mem_cons_self)
  have hargs : args.toArray.size = ps.toArray.size := by simpa using hlen k args _ hk
  have hy := run_yield (P := P) (args := args.toArray) hl hargs
  have hz : (ps.toArray.zip args.toArray).foldl (fun tmps (x : Nat × Value) => tmps.setIfInBounds x.1 x.2) tm = (ps.zip args).foldl (fun t (x : Nat × Value) => t.setIfInBounds x.1 x.2) tm := by
    simp [List.zip_toArray]
  obtain ⟨z1, z2⟩ := st_asg ps args T tm h1 h2 hps
  refine ⟨?_⟩
  have e : (do let d ← Deferred.ofValue (.func (.yield l) #[] #[]) args.toArray; invoke d.target d.args : Sem Next).run P w1 = .ok (.round l fn ((ps.zip args).foldl (fun t (x : Nat × Value) => t.setIfInBounds x.1 x.2) tm) assign body) w1 := by
    simp only [Deferred.ofValue, pure_bind, invoke, Array.empty_append]
    rw [← hz]
    exact hy
  rw [e]
  refine roundIn_of_wpIn (F := FW none) trivial ?_
  exact hr l _ bk k args G1 Lu w1 { tmps := _, defers := [] } hk hm hJ ⟨z1, z2, rfl, ho.hp⟩
theorem c_range {gop : Operand} {ps : List Nat} {assign body : Code} {gf : FuncId} {caps : List Value} {xs : List AP} {Gi : GH}
    (H : St N D w0 F G0 G L T a w) (hg : ev T gop = some (.func (.func gf) #[] caps.toArray)) (en : ∀ args w, (callFunc gf args).run P w = .ok (.enter gf args) w) (hit : Iter P Gi (.func (.func gf) #[] caps.toArray) xs) (hGi : ∀ b o, Gi b = some o → G b = some o)
    (hps : ps.all (Nat.blt · N) = true) (hlen : ∀ k args g, AtAP xs k args g → args.length = ps.length)
    (J : Nat → GH → OL → Prop) (Jx : Code → GH → OL → Prop) (hJm : JMono J) (hJx : ∀ c, XMono (Jx c)) (h0 : J 0 G L) (hround : RoundOk P N ps assign body T G J Jx xs)
    (hdone : ∀ Dk G1 L1 a1 w1, (∀ b o, G b = some o → G1 b = some o) → J xs.length G1 L1 → St N ({ target := .collected Dk, args := #[] } :: D) w0 F G0 G1 ((Dk, .deferred (some [])) :: L1) T a1 w1 → Q .normal a1 w1)
    (hstop : ∀ Dk c G1 L1 a1 w1, (∀ b o, G b = some o → G1 b = some o) → Jx c G1 L1 → St N ({ target := .collected Dk, args := #[] } :: D) w0 F G0 G1 ((Dk, .deferred (some [])) :: L1) T a1 w1 → WP none P c Q a1 w1) :
    WP none P (.rangeFunc gop ps.toArray assign body) Q a w := by
  refine wpIn_rangeFunc ?_
  intro fn _
  have hev := H.ev hg
  let q : Rec := ⟨fn, a.tmps, ps.toArray, assign, body, w.heap.size⟩
  obtain ⟨W1, hW1⟩ : ∃ W1, W1 = (w.alloc (.deferred (some []))).alloc (q.at .ready none) := ⟨_, rfl⟩
  have H1 : Hp w0 F G0 G ((w.heap.size + 1, q.at .ready none) :: (w.heap.size, .deferred (some [])) :: L) W1 := by
    have := (H.hp.alloc (.deferred (some []))).alloc (q.at .ready none)
    rw [World.size_alloc] at this
    rw [hW1]; exact this
  refine ⟨w.heap.size + 1, [{ target := .collected w.heap.size, args := #[] }], W1, { target := .fn (.func gf) caps.toArray, args := #[.func (.yield (w.heap.size + 1)) #[] #[]] }, W1, gf,
    #[.func (.yield (w.heap.size + 1)) #[] #[]] ++ caps.toArray, W1, by rw [hW1]; exact run_enterLoop_outer fn a.tmps ps.toArray assign body, ?_, fun _ _ => trivial, ?_, FW_depth none, ?_⟩
  · simp only [resolve, rangeCall, hev]
    simp [Deferred.ofValue, Act.eval]
  · simp [invoke, en]
  · have hcv := hit (fun k => Jr (w.heap.size + 1) q [(w.heap.size, .deferred (some []))] (J k)) (Jrx (w.heap.size + 1) q [(w.heap.size, .deferred (some []))] Jx) (.func (.yield (w.heap.size + 1)) #[] #[]) G
      ((w.heap.size + 1, q.at .ready none) :: (w.heap.size, .deferred (some [])) :: L) W1 rfl hGi (fun k G G' L hm ⟨Lu, e, h⟩ => ⟨Lu, e, hJm k G G' Lu hm h⟩) (fun G G' L hm ⟨c, Lu, e, h⟩ => ⟨c, Lu, e, hJx c G G' Lu hm h⟩) ⟨L, rfl, h0⟩ (Hp.owns (Li := []) H1) (cback_yield H.asz H.get hps hlen hround)
    replace hcv := hcv.go
    have e : (do let d ← Deferred.ofValue (.func (.func gf) #[] caps.toArray) [Value.func (.yield (w.heap.size + 1)) #[] #[]].toArray; invoke d.target d.args : Sem Next).run P W1 = .ok (.enter gf (#[.func (.yield (w.heap.size + 1)) #[] #[]] ++ caps.toArray)) W1 := by
      simp [Deferred.ofValue, invoke, en]
    rw [e] at hcv
    refine (callsIn_of_calls hcv).mono ?_
    rintro e w2 ⟨v, G2, L2, rfl, hch, hJ⟩
    have H2 := Hp.change (Li := []) H1 hch
    rcases hJ with ⟨Lu, rfl, hJ⟩ | ⟨c, Lu, rfl, hJ⟩
    · have hl := H2.own _ (List.mem_cons_self)
      have H3 := (H2.upd (i := 0) rfl (upd_putObj (q.at .exhausted none) hl)).drop (List.sublist_cons_self _ _)
      exact ⟨none, _, run_endLoop hl (by simp), hdone _ G2 Lu _ _ hch.gm hJ ⟨H.asz, H.get, by simp [H.dfr], H3⟩⟩
    · have hl := H2.own _ (List.mem_cons_self)
      have H3 := (H2.upd (i := 0) rfl (upd_putObj (q.at .exhausted (some c)) hl)).drop (List.sublist_cons_self _ _)
      exact ⟨some c, _, run_endLoop hl (by simp), hstop _ c G2 Lu _ _ hch.gm hJ ⟨H.asz, H.get, by simp [H.dfr], H3⟩⟩
/-- A range over a function within a round of the loop l0. -/
theorem c_rangeN {l0 : Nat} {r0 : Loop} {gop : Operand} {ps : List Nat} {assign body : Code} {gf : FuncId} {caps : List Value} {xs : List AP} {Gi : GH}
    (H : St N D w0 F G0 G L T a w) (hl0 : (l0, .loop r0) ∈ L) (hg : ev T gop = some (.func (.func gf) #[] caps.toArray)) (en : ∀ args w, (callFunc gf args).run P w = .ok (.enter gf args) w) (hit : Iter P Gi (.func (.func gf) #[] caps.toArray) xs) (hGi : ∀ b o, Gi b = some o → G b = some o)
    (hps : ps.all (Nat.blt · N) = true) (hlen : ∀ k args g, AtAP xs k args g → args.length = ps.length)
    (J : Nat → GH → OL → Prop) (Jx : Code → GH → OL → Prop) (hJm : JMono J) (hJx : ∀ c, XMono (Jx c)) (h0 : J 0 G L) (hround : RoundOk P N ps assign body T G J Jx xs)
    (hdone : ∀ G1 L1 a1 w1, (∀ b o, G b = some o → G1 b = some o) → J xs.length G1 L1 → St N D w0 F G0 G1 L1 T a1 w1 → Q .normal a1 w1)
    (hstop : ∀ c G1 L1 a1 w1, (∀ b o, G b = some o → G1 b = some o) → Jx c G1 L1 → St N D w0 F G0 G1 L1 T a1 w1 → WP (some l0) P c Q a1 w1) :
    WP (some l0) P (.rangeFunc gop ps.toArray assign body) Q a w := by
  refine wpIn_rangeFunc ?_
  intro fn _
  have hev := H.ev hg
  let q : Rec := ⟨fn, a.tmps, ps.toArray, assign, body, r0.defers⟩
  obtain ⟨W1, hW1⟩ : ∃ W1, W1 = w.alloc (q.at .ready none) := ⟨_, rfl⟩
  have H1 : Hp w0 F G0 G ((w.heap.size, q.at .ready none) :: L) W1 := by rw [hW1]; exact H.hp.alloc (q.at .ready none)
  have hlo := H.hp.own _ hl0
  have hen : (Instr.enterLoop fn a.tmps ps.toArray assign body (some l0)).run P w = .ok (w.heap.size, []) W1 := by
    rw [hW1]
    unfold Instr.enterLoop
    simp only [Sem.run_bind, run_getLoop hlo, Result.andThen, newObj, Sem.run, Sem.run_pure]
    rfl
  refine ⟨w.heap.size, [], W1, { target := .fn (.func gf) caps.toArray, args := #[.func (.yield w.heap.size) #[] #[]] }, W1, gf,
    #[.func (.yield w.heap.size) #[] #[]] ++ caps.toArray, W1, hen, ?_, fun _ _ => trivial, ?_, FW_depth _, ?_⟩
  · simp only [resolve, rangeCall, hev]
    simp [Deferred.ofValue, Act.eval]
  · simp [invoke, en]
  · have hcv := hit (fun k => Jr w.heap.size q [] (J k)) (Jrx w.heap.size q [] Jx) (.func (.yield w.heap.size) #[] #[]) G
      ((w.heap.size, q.at .ready none) :: L) W1 rfl hGi (fun k G G' L hm ⟨Lu, e, h⟩ => ⟨Lu, e, hJm k G G' Lu hm h⟩) (fun G G' L hm ⟨c, Lu, e, h⟩ => ⟨c, Lu, e, hJx c G G' Lu hm h⟩) ⟨L, rfl, h0⟩ (Hp.owns (Li := []) H1) (cback_yield H.asz H.get hps hlen hround)
    replace hcv := hcv.go
    have e : (do let d ← Deferred.ofValue (.func (.func gf) #[] caps.toArray) [Value.func (.yield w.heap.size) #[] #[]].toArray; invoke d.target d.args : Sem Next).run P W1 = .ok (.enter gf (#[.func (.yield w.heap.size) #[] #[]] ++ caps.toArray)) W1 := by
      simp [Deferred.ofValue, invoke, en]
    rw [e] at hcv
    refine (callsIn_of_calls hcv).mono ?_
    rintro e w2 ⟨v, G2, L2, rfl, hch, hJ⟩
    have H2 := Hp.change (Li := []) H1 hch
    rcases hJ with ⟨Lu, rfl, hJ⟩ | ⟨c, Lu, rfl, hJ⟩
    · have hl := H2.own _ (List.mem_cons_self)
      have H3 := (H2.upd (i := 0) rfl (upd_putObj (q.at .exhausted none) hl)).drop (List.sublist_cons_self _ _)
      exact ⟨none, _, run_endLoop hl (by simp), hdone G2 Lu _ _ hch.gm hJ ⟨H.asz, H.get, by simp [H.dfr], H3⟩⟩
    · have hl := H2.own _ (List.mem_cons_self)
      have H3 := (H2.upd (i := 0) rfl (upd_putObj (q.at .exhausted (some c)) hl)).drop (List.sublist_cons_self _ _)
      exact ⟨some c, _, run_endLoop hl (by simp), hstop c G2 Lu _ _ hch.gm hJ ⟨H.asz, H.get, by simp [H.dfr], H3⟩⟩
theorem leaveM {fn : Func} {R : Ending → World → Prop} {b : Nat} (H : St N ({ target := .collected b, args := #[] } :: D) w0 F G0 G L T a w) (i : Nat) (hi : L[i]? = some (b, .deferred (some [])))
    (k : ∀ a' w', St N D w0 F G0 G (L.eraseIdx i) T a' w' → bodyPostM (FW none) 0 P fn R .ret a' w') : bodyPostM (FW none) 0 P fn R .ret a w ∧ bodyPostM (FW none) 0 P fn R .normal a w := by
  have hb := H.hp.own _ (List.mem_of_getElem? hi)
  have H2 := (H.hp.upd hi (upd_putObj (.deferred none) hb)).drop (L' := L.eraseIdx i) (by
    have h1 : (L.set i (b, .deferred none)).eraseIdx i = L.eraseIdx i := by
      apply List.ext_getElem?
      intro j
      simp only [List.getElem?_eraseIdx, List.getElem?_set]
      split <;> split <;> first | rfl | omega
    rw [← h1]; exact List.eraseIdx_sublist _ _)
  have hk := k { a with defers := D } _ ⟨H.asz, H.get, rfl, H2⟩
  have h1 : LeavesInM (FW none) 0 P fn a.tmps R a.defers .returning w := by
    rw [H.dfr]
    exact ⟨by simp, .inl ⟨b, _, rfl, run_takeDeferred hb, hk⟩⟩
  exact ⟨h1, h1⟩
theorem St.giveUp {b : Nat} {o : Obj} (h : St N D w0 F G0 G L T a w) (i : Nat) (hi : L[i]? = some (b, o)) : St N D w0 F G0 (G.add b o) (L.eraseIdx i) T a w := ⟨h.asz, h.get, h.dfr, h.hp.giveUp i hi⟩
theorem St.gnone {b : Nat} {o : Obj} (h : St N D w0 F G0 G L T a w) (i : Nat) (hi : L[i]? = some (b, o)) : G b = none := h.hp.sepG _ (List.mem_of_getElem? hi)
/-- The door of a function that was lent blocks. -/
theorem enterL {f : FuncId} {fn : Func} {c : Code} {vs : List Value} {R : Ending → World → Prop} (hf : P.funcs[f]? = some fn) (hb : fn.body = some c) (hN : fn.ntmps = N) (hle : Nat.ble vs.length N = true)
    (hT : argT 0 vs = T) (ho : Owns G L w) (h : ∀ a, St N [] w (Fr w L) G G L T a w → WP none P c (bodyPostM (FW none) 0 P fn R) a w) : Calls P f vs.toArray w R :=
  enter hf hb hN hle hT ho.ro (fun _ hk => hk.1) ho.own ho.sep (fun p hp hf => hf.2 p hp rfl) ho.nd h
end steps
end Go.Proofs.YtpmcdlhhfbobfaaDoor
