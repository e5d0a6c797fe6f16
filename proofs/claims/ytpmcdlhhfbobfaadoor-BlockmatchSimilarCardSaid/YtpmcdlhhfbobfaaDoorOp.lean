/-
  The step lemmas, one for each kind of operation.
-/
import Derived.Test.YtpmcdlhhfbobfaaDoorLg
namespace Go.Proofs.YtpmcdlhhfbobfaaDoor
open Go.RowKit
section base
variable {r : Option Nat} {P : Program} {ops : Array Oper} {Q : Exit → Act → World → Prop} {rest : List Oper} {a : Act} {w w' : World} {o : Oper}
def noDefer : Op → Bool
  | .defer _ => false
  | _ => true
def noCall : Op → Bool
  | .call _ => false
  | .defer _ => false
  | _ => true
theorem semAt_of {o : Oper} {ro : Option Nat} {ρ : Operand → Value} (h : noDefer o.op = true) : o.semAt ro ρ = execOp ρ o :=
  Oper.semAt_eq ro ρ o fun c e => by rw [e] at h; cases h
theorem wl_nil (h : Q .normal a w) : WL r P ops Q [] a w := wpListIn_nil h
theorem wl_step (hw : Region.wanted o (yielded ops a.tmps) = true) (h : o.wpIn (FW r) 0 P a w (WL r P ops Q rest) Q) : WL r P ops Q (o :: rest) a w := by
  show wpListIn (FW r) 0 P ops Q (o :: rest) a w
  unfold wpListIn
  rw [if_pos hw]
  exact h
theorem wl_skip (hw : Region.wanted o (yielded ops a.tmps) = false) (h : WL r P ops Q rest (a.put o.dst undef) w) : WL r P ops Q (o :: rest) a w := by
  show wpListIn (FW r) 0 P ops Q (o :: rest) a w
  unfold wpListIn
  rw [if_neg (by simp [hw])]
  exact ⟨fun _ _ => trivial, h⟩
theorem wl_value {v : Value} (hw : Region.wanted o (yielded ops a.tmps) = true) (hd : noDefer o.op = true) (h : (execOp a.eval o).run P w = .ok (.value v) w')
    (k : WL r P ops Q rest (a.put o.dst v) w') : WL r P ops Q (o :: rest) a w := by
  refine wl_step hw ⟨fun _ _ => trivial, ?_⟩
  rw [semAt_of hd, h]
  exact k
theorem wl_unit (hw : Region.wanted o (yielded ops a.tmps) = true) (hd : noDefer o.op = true) (h : (execOp a.eval o).run P w = .ok .skip w')
    (k : WL r P ops Q rest (a.put o.dst undef) w') : WL r P ops Q (o :: rest) a w := by
  refine wl_step hw ⟨fun _ _ => trivial, ?_⟩
  rw [semAt_of hd, h]
  exact k
/-- What is asked of a call, in whatever way the function value leads on. -/
def After (P : Program) (nx : Result Next) (R : Ending → World → Prop) : Prop :=
  match nx with
  | .ok (.enter f args) w' => Calls P f args w' R
  | .ok (.round l f tmps assign body) w' => RoundIn (FW none) 0 P l f tmps assign body w' R
  | _ => False
/-- A function value is called with arguments. -/
structure CallV (P : Program) (fv : Value) (args : List Value) (w : World) (R : Ending → World → Prop) : Prop where
  go : After P ((do let d ← Deferred.ofValue fv args.toArray; invoke d.target d.args : Sem Next).run P w) R
theorem wl_after {nx : Result Next} {R : Ending → World → Prop} (hw : Region.wanted o (yielded ops a.tmps) = true) (hd : noDefer o.op = true) (h : (execOp a.eval o).run P w = nx) (hc : After P nx R)
    (k : ∀ e w', R e w' → ∃ v, e = .returned v ∧ WL r P ops Q rest (a.put o.dst v) w') : WL r P ops Q (o :: rest) a w := by
  refine wl_step hw ⟨fun _ _ => trivial, ?_⟩
  rw [semAt_of hd, h]
  cases nx with
  | halt x y => exact hc.elim
  | ok x w1 =>
    cases x with
    | enter f args =>
      refine ⟨FW_depth r, (callsIn_of_calls hc).mono fun e w2 hR => ?_⟩
      obtain ⟨v, rfl, hk⟩ := k e w2 hR
      exact hk
    | round l f tmps assign body =>
      have hc' : RoundIn (FW none) 0 P l f tmps assign body w1 R := hc
      refine ⟨FW_depth r, ?_⟩
      have h2 : RoundIn (FW r) (0 - 1) P l f tmps assign body w1 R := ⟨trivial, fun c cs hr => hc'.2 c cs (room_wide _)⟩
      exact h2.mono fun e w2 hR => by obtain ⟨v, rfl, hk⟩ := k e w2 hR; exact hk
    | _ => exact hc.elim
end base

section steps
variable {N : Nat} {D : List Deferred} {w0 : World} {F : Nat → Prop} {G0 G : GH} {L : List (Nat × Obj)} {T : List (Nat × Value)}
variable {r : Option Nat} {P : Program} {ops : Array Oper} {Q : Exit → Act → World → Prop} {rest : List Oper} {a : Act} {w : World}
variable {d : Nat} {ty : TypeId} {pos : String} {aft : Array Edge} {g : Option (Nat × Bool)}

/-! ### guards -/
theorem wn {op : Op} {dst : Option Tmp} {y : Nat → Option Bool} : Region.wanted ⟨dst, op, ty, pos, aft, none⟩ y = true := rfl
theorem yielded_of (H : St N D w0 F G0 G L T a w) {j t : Nat} {b : Bool} (hj : (ops[j]?).bind (·.dst) = some t) (ht : lk T t = some (.bool b)) : yielded ops a.tmps j = some b := by
  unfold yielded
  rw [hj]
  simp [H.get t _ ht]
theorem wg (H : St N D w0 F G0 G L T a w) {op : Op} {dst : Option Tmp} {j t : Nat} {want b : Bool} (hj : (ops[j]?).bind (·.dst) = some t) (ht : lk T t = some (.bool b)) (hb : b = want) :
    Region.wanted ⟨dst, op, ty, pos, aft, some (j, want)⟩ (yielded ops a.tmps) = true := by
  simp [Region.wanted, yielded_of H hj ht, hb]
theorem s_skip (H : St N D w0 F G0 G L T a w) {op : Op} {j t : Nat} {want b : Bool} (hj : (ops[j]?).bind (·.dst) = some t) (ht : lk T t = some (.bool b)) (hb : b = !want) (hd : Nat.blt d N = true)
    (k : ∀ a', St N D w0 F G0 G L ((d, undef) :: T) a' w → WL r P ops Q rest a' w) : WL r P ops Q (⟨some d, op, ty, pos, aft, some (j, want)⟩ :: rest) a w := by
  refine wl_skip ?_ (k _ (H.put hd undef H.hp))
  simp only [Region.wanted, yielded_of H hj ht, hb]
  cases want <;> rfl
theorem s_skipU (H : St N D w0 F G0 G L T a w) {op : Op} {j t : Nat} {want : Bool} (hj : (ops[j]?).bind (·.dst) = some t) (ht : lk T t = some undef) (hd : Nat.blt d N = true)
    (k : ∀ a', St N D w0 F G0 G L ((d, undef) :: T) a' w → WL r P ops Q rest a' w) : WL r P ops Q (⟨some d, op, ty, pos, aft, some (j, want)⟩ :: rest) a w := by
  refine wl_skip ?_ (k _ (H.put hd undef H.hp))
  have h : yielded ops a.tmps j = none := by
    unfold yielded
    rw [hj]
    simp [H.get t _ ht, undef]
  simp only [Region.wanted, h]
  cases want <;> rfl
theorem s_skip0 (H : St N D w0 F G0 G L T a w) {op : Op} {j t : Nat} {want b : Bool} (hj : (ops[j]?).bind (·.dst) = some t) (ht : lk T t = some (.bool b)) (hb : b = !want)
    (k : WL r P ops Q rest a w) : WL r P ops Q (⟨none, op, ty, pos, aft, some (j, want)⟩ :: rest) a w := by
  refine wl_skip ?_ k
  simp only [Region.wanted, yielded_of H hj ht, hb]
  cases want <;> rfl
/-- The ways part at a truth value that a slot holds. -/
theorem s_split (_H : St N D w0 F G0 G L T a w) (t : Nat) {b : Bool} {X : Prop} (_ht : lk T t = some (.bool b)) (h1 : b = true → X) (h0 : b = false → X) : X := by cases b <;> simp_all

/-! ### moves -/
theorem s_move {x : Operand} {v : Value} (H : St N D w0 F G0 G L T a w) (hw : Region.wanted ⟨some d, .move x, ty, pos, aft, g⟩ (yielded ops a.tmps) = true) (hx : ev T x = some v) (hd : Nat.blt d N = true)
    (k : ∀ a', St N D w0 F G0 G L ((d, v) :: T) a' w → WL r P ops Q rest a' w) : WL r P ops Q (⟨some d, .move x, ty, pos, aft, g⟩ :: rest) a w :=
  wl_value (v := v) (w' := w) hw rfl (by simp [execOp, H.ev hx]) (k _ (H.put hd v H.hp))
theorem s_assign {x : Operand} {v : Value} (H : St N D w0 F G0 G L T a w) (hw : Region.wanted ⟨some d, .assign x, ty, pos, aft, g⟩ (yielded ops a.tmps) = true) (hx : ev T x = some v) (hd : Nat.blt d N = true)
    (k : ∀ a', St N D w0 F G0 G L ((d, v) :: T) a' w → WL r P ops Q rest a' w) : WL r P ops Q (⟨some d, .assign x, ty, pos, aft, g⟩ :: rest) a w :=
  wl_value (v := v) (w' := w) hw rfl (by simp [execOp, H.ev hx]) (k _ (H.put hd v H.hp))
theorem s_pick_t {c x y : Operand} {b : Bool} {v : Value} (H : St N D w0 F G0 G L T a w) (hw : Region.wanted ⟨some d, .pick c x y, ty, pos, aft, g⟩ (yielded ops a.tmps) = true) (hc : ev T c = some (.bool b)) (hb : b = true) (hx : ev T x = some v) (hd : Nat.blt d N = true)
    (k : ∀ a', St N D w0 F G0 G L ((d, v) :: T) a' w → WL r P ops Q rest a' w) : WL r P ops Q (⟨some d, .pick c x y, ty, pos, aft, g⟩ :: rest) a w :=
  wl_value (v := v) (w' := w) hw rfl (by simp [execOp, H.ev hx, H.ev hc, asBool, hb]) (k _ (H.put hd v H.hp))
theorem s_pick_f {c x y : Operand} {b : Bool} {v : Value} (H : St N D w0 F G0 G L T a w) (hw : Region.wanted ⟨some d, .pick c x y, ty, pos, aft, g⟩ (yielded ops a.tmps) = true) (hc : ev T c = some (.bool b)) (hb : b = false) (hx : ev T y = some v) (hd : Nat.blt d N = true)
    (k : ∀ a', St N D w0 F G0 G L ((d, v) :: T) a' w → WL r P ops Q rest a' w) : WL r P ops Q (⟨some d, .pick c x y, ty, pos, aft, g⟩ :: rest) a w :=
  wl_value (v := v) (w' := w) hw rfl (by simp [execOp, H.ev hx, H.ev hc, asBool, hb]) (k _ (H.put hd v H.hp))

/-! ### types -/
/-- What the program's table says of a type: cells, bytes, the zero value's cells, whether its values are rows of cells. -/
structure Ty (P : Program) (t : TypeId) (sz bytes : Nat) (zero : List Value) (agg : Bool) : Prop where
  info : (P.info? t).map (fun i => (i.size, i.bytes, i.zero.map fun z => z.cells.toList)) = some (sz, bytes, some zero)
  ag : (P.underlying t).map (fun | .struct _ => true | .array _ _ => true | _ => false) = some agg
theorem Ty.parts {t : TypeId} {sz bytes : Nat} {zero : List Value} {agg : Bool} (h : Ty P t sz bytes zero agg) : ∃ i z, P.info? t = some i ∧ i.size = sz ∧ i.bytes = bytes ∧ i.zero = some z ∧ z.cells = zero.toArray := by
  obtain ⟨i, hi, hx⟩ := Option.map_eq_some_iff.1 h.info
  simp only [Prod.mk.injEq] at hx
  obtain ⟨z, hz, hzz⟩ := Option.map_eq_some_iff.1 hx.2.2
  exact ⟨i, z, hi, hx.1, hx.2.1, hz, by rw [← hzz]⟩
theorem run_info {t : TypeId} {i : TypeInfo} (h : P.info? t = some i) (w : World) : (typeInfo t).run P w = .ok i w := by simp [typeInfo, program, Sem.run, Sem.run_bind, h]
theorem Ty.run_size {t : TypeId} {sz bytes : Nat} {zero : List Value} {agg : Bool} (h : Ty P t sz bytes zero agg) (w : World) : (sizeOf t).run P w = .ok sz w := by
  obtain ⟨i, z, hi, h1, -, -, -⟩ := h.parts
  simp [sizeOf, Sem.run_bind, run_info hi, h1]
theorem Ty.run_zero {t : TypeId} {sz bytes : Nat} {zero : List Value} {agg : Bool} (h : Ty P t sz bytes zero agg) (w : World) : ∃ z, (zeroValue t).run P w = .ok z w ∧ z.cells = zero.toArray := by
  obtain ⟨i, z, hi, -, -, h1, h2⟩ := h.parts
  exact ⟨z, by simp [zeroValue, Sem.run_bind, run_info hi, h1], h2⟩
theorem run_und {t : TypeId} {u : TypeDesc} (h : P.underlying t = some u) (w : World) : (underlying t).run P w = .ok u w := by simp [underlying, program, Sem.run, Sem.run_bind, h]
theorem Ty.run_agg {t : TypeId} {sz bytes : Nat} {zero : List Value} {agg : Bool} (h : Ty P t sz bytes zero agg) (w : World) : (isAgg t).run P w = .ok agg w := by
  obtain ⟨u, hu, hx⟩ := Option.map_eq_some_iff.1 h.ag
  unfold isAgg
  simp only [Sem.run_bind, run_und hu, Result.andThen_ok]
  cases u <;> simp_all

/-! ### new blocks -/
theorem s_alloc {elem : TypeId} {sz bytes : Nat} {zero : List Value} {agg : Bool} (ht : Ty P elem sz bytes zero agg) (H : St N D w0 F G0 G L T a w) (hw : Region.wanted ⟨some d, .alloc elem, ty, pos, aft, g⟩ (yielded ops a.tmps) = true) (hd : Nat.blt d N = true)
    (k : ∀ b a' w', w0.heap.size ≤ b → St N D w0 F G0 G ((b, .cells zero.toArray elem (0, 0)) :: L) ((d, .pointer (some ⟨b, 0, none⟩)) :: T) a' w' → WL r P ops Q rest a' w') : WL r P ops Q (⟨some d, .alloc elem, ty, pos, aft, g⟩ :: rest) a w := by
  obtain ⟨z, hz, hzc⟩ := ht.run_zero w
  refine wl_value (v := .pointer (some ⟨w.heap.size, 0, none⟩)) (w' := w.alloc (.cells zero.toArray elem (0, 0))) hw rfl ?_ (k _ _ _ H.hp.size (H.put hd _ (H.hp.alloc _)))
  simp [execOp, Instr.alloc, Sem.run_bind, hz, newVar, newRow, newObj, Sem.run, hzc]
theorem s_box {elem : TypeId} {x : Operand} {v : Value} {cs : List Value} (H : St N D w0 F G0 G L T a w) (hw : Region.wanted ⟨some d, .box elem x, ty, pos, aft, g⟩ (yielded ops a.tmps) = true) (hx : ev T x = some v) (hc : v.cells = cs.toArray) (hd : Nat.blt d N = true)
    (k : ∀ b a' w', w0.heap.size ≤ b → St N D w0 F G0 G ((b, .cells cs.toArray elem (0, 0)) :: L) ((d, .pointer (some ⟨b, 0, none⟩)) :: T) a' w' → WL r P ops Q rest a' w') : WL r P ops Q (⟨some d, .box elem x, ty, pos, aft, g⟩ :: rest) a w := by
  refine wl_value (v := .pointer (some ⟨w.heap.size, 0, none⟩)) (w' := w.alloc (.cells cs.toArray elem (0, 0))) hw rfl ?_ (k _ _ _ H.hp.size (H.put hd _ (H.hp.alloc _)))
  simp [execOp, Instr.box, Sem.run_bind, newVar, newRow, newObj, Sem.run, H.ev hx, hc]

/-! ### reading cells -/
def gcell (G : GH) (b o : Nat) : Option Value := match G b with | some (.cells c _ _) => c[o]? | _ => none
theorem Hp.gcell (h : Hp w0 F G0 G L w) {b o : Nat} {v : Value} (hg : Proofs.YtpmcdlhhfbobfaaDoor.gcell G b o = some v) : w.cell? ⟨b, o, none⟩ = some v := by
  unfold Proofs.YtpmcdlhhfbobfaaDoor.gcell at hg
  split at hg
  · rename_i c e f he
    simp only [World.cell?, h.ro b _ he]
    exact hg
  · cases hg
theorem Hp.ocell (h : Hp w0 F G0 G L w) (i : Nat) {b o : Nat} {c : Array Value} {e : TypeId} {fz : Nat × Nat} {v : Value} (hi : L[i]? = some (b, .cells c e fz)) (hv : c[o]? = some v) : w.cell? ⟨b, o, none⟩ = some v := by
  have := h.own _ (List.mem_of_getElem? hi)
  simp only [World.cell?] at *
  rw [this]
  exact hv
theorem add_lit (b o n : Nat) : (⟨b, o, none⟩ : Addr).add n = ⟨b, o + n, none⟩ := by
  unfold Addr.add
  split
  · rename_i h; subst h; rfl
  · rfl
theorem run_load1 {b o : Nat} {v : Value} (h : w.cell? ⟨b, o, none⟩ = some v) : (load ⟨b, o, none⟩).run P w = .ok v w := by simp [load, Sem.run, h]
theorem run_loadCells (b : Nat) (w : World) : ∀ (cs : List Value) (o i : Nat) (acc : Array Value), (∀ j v, cs[j]? = some v → w.cell? ⟨b, o + i + j, none⟩ = some v) →
    (loadCellsFrom ⟨b, o, none⟩ i cs.length acc).run P w = .ok (acc ++ cs.toArray) w
  | [], o, i, acc, _ => by simp [loadCellsFrom, Sem.run]
  | c :: cs, o, i, acc, h => by
    have h0 := h 0 c rfl
    have ih := run_loadCells b w cs o (i + 1) (acc.push c) (fun j v hj => by have := h (j + 1) v (by simpa using hj); rw [← this]; congr 2; omega)
    simp only [loadCellsFrom, List.length_cons, Sem.run_bind, add_lit, run_load1 (P := P) (by simpa using h0), Result.andThen_ok, ih]
    congr 1
    apply Array.ext'
    simp
theorem s_load {t : TypeId} {sz bytes : Nat} {zero : List Value} (ht : Ty P t sz bytes zero false) {x : Operand} {b o : Nat} {v : Value} (H : St N D w0 F G0 G L T a w) (hw : Region.wanted ⟨some d, .load t x, ty, pos, aft, g⟩ (yielded ops a.tmps) = true)
    (hx : ev T x = some (.pointer (some ⟨b, o, none⟩))) (hc : w.cell? ⟨b, o, none⟩ = some v) (hd : Nat.blt d N = true)
    (k : ∀ a', St N D w0 F G0 G L ((d, v) :: T) a' w → WL r P ops Q rest a' w) : WL r P ops Q (⟨some d, .load t x, ty, pos, aft, g⟩ :: rest) a w := by
  refine wl_value (v := v) (w' := w) hw rfl ?_ (k _ (H.put hd v H.hp))
  simp only [execOp, Instr.loadAt, Instr.sureAddr, loadVar, Sem.run_bind, H.ev hx, ht.run_agg, Result.andThen_ok, Sem.run_pure, Bool.false_eq_true, if_false, run_load1 hc]
theorem s_loada {t : TypeId} {sz bytes : Nat} {zero : List Value} (ht : Ty P t sz bytes zero true) {x : Operand} {b o : Nat} {cs : List Value} (H : St N D w0 F G0 G L T a w) (hw : Region.wanted ⟨some d, .load t x, ty, pos, aft, g⟩ (yielded ops a.tmps) = true)
    (hx : ev T x = some (.pointer (some ⟨b, o, none⟩))) (hl : cs.length = sz) (hc : ∀ j v, cs[j]? = some v → w.cell? ⟨b, o + j, none⟩ = some v) (hd : Nat.blt d N = true)
    (k : ∀ a', St N D w0 F G0 G L ((d, .agg cs.toArray) :: T) a' w → WL r P ops Q rest a' w) : WL r P ops Q (⟨some d, .load t x, ty, pos, aft, g⟩ :: rest) a w := by
  refine wl_value (v := .agg cs.toArray) (w' := w) hw rfl ?_ (k _ (H.put hd _ H.hp))
  have h1 := run_loadCells (P := P) b w cs o 0 #[] (fun j v hj => by simpa using hc j v hj)
  simp only [Array.empty_append, hl] at h1
  simp [execOp, Instr.loadAt, Instr.sureAddr, loadVar, Sem.run_bind, H.ev hx, ht.run_agg, ht.run_size, loadCells, h1]
/-- The cells of a part of a block of the call's own. -/
theorem Hp.ocells (h : Hp w0 F G0 G L w) (i : Nat) {b o : Nat} {c : List Value} {e : TypeId} {fz : Nat × Nat} {cs : List Value} (hi : L[i]? = some (b, .cells c.toArray e fz)) (hv : (c.drop o).take cs.length = cs) : ∀ j v, cs[j]? = some v → w.cell? ⟨b, o + j, none⟩ = some v := by
  intro j v hj
  refine h.ocell i hi ?_
  rw [← hv, List.getElem?_take] at hj
  split at hj
  · rw [List.getElem?_drop] at hj
    simpa using hj
  · cases hj

/-! ### writing cells -/
theorem upd_setCell {b o : Nat} {c : Array Value} {e : TypeId} {fz : Nat × Nat} (h : w.heap[b]? = some (.cells c e fz)) (v : Value) : Upd b (.cells (c.setIfInBounds o v) e fz) w (w.setCell ⟨b, o, none⟩ v) := by
  refine ⟨rfl, rfl, rfl, by simp, ?_, fun k hk => Below.heap_setCell w _ v k hk⟩
  simp [World.setCell, Array.getElem?_modify, h]
theorem Upd.trans {b : Nat} {o1 o2 : Obj} {w1 w2 w3 : World} (h : Upd b o1 w1 w2) (k : Upd b o2 w2 w3) : Upd b o2 w1 w3 :=
  ⟨k.os.trans h.os, k.tape.trans h.tape, k.output.trans h.output, k.size.trans h.size, k.this, fun j hj => (k.others j hj).trans (h.others j hj)⟩
theorem Upd.refl {b : Nat} {o : Obj} {w : World} (h : w.heap[b]? = some o) : Upd b o w w := ⟨rfl, rfl, rfl, rfl, h, fun _ _ => rfl⟩
def oneCell' : Value → Bool
  | .agg _ | .tuple _ => false
  | _ => true
def setRow (c : List Value) : Nat → List Value → List Value
  | _, [] => c
  | o, v :: vs => setRow (c.set o v) (o + 1) vs
theorem run_store1 {b o : Nat} {c : Array Value} {e : TypeId} {v : Value} (hb : w.heap[b]? = some (.cells c e (0, 0))) (ho : o < c.size) (hv : oneCell' v = true) :
    (store ⟨b, o, none⟩ v).run P w = .ok () (w.setCell ⟨b, o, none⟩ v) := by
  have h1 : w.cell? ⟨b, o, none⟩ = some c[o] := by simp [World.cell?, hb, ho]
  have h2 : w.frozen? ⟨b, o, none⟩ = false := by simp [World.frozen?, hb]
  unfold store
  cases v <;> first | (simp [oneCell'] at hv; done) | (simp only [Sem.run, h1, h2]; rfl)
theorem run_storeCells (b : Nat) (e : TypeId) (o0 : Nat) : ∀ (vs : List Value) (i : Nat) (c : List Value) (w : World), w.heap[b]? = some (.cells c.toArray e (0, 0)) → o0 + i + vs.length ≤ c.length → (∀ v ∈ vs, oneCell' v = true) →
    ∃ w', (storeCells ⟨b, o0, none⟩ vs i).run P w = .ok () w' ∧ Upd b (.cells (setRow c (o0 + i) vs).toArray e (0, 0)) w w'
  | [], i, c, w, hb, _, _ => ⟨w, by simp [storeCells, Sem.run], Upd.refl hb⟩
  | v :: vs, i, c, w, hb, hl, hv => by
    simp only [List.length_cons] at hl
    have hr := run_store1 (P := P) (o := o0 + i) (v := v) hb (by simp; omega) (hv v (by simp))
    have hu := upd_setCell (o := o0 + i) hb v
    have hb' := hu.this
    simp only [List.setIfInBounds_toArray] at hb' hu
    obtain ⟨w2, h2, u2⟩ := run_storeCells b e o0 vs (i + 1) (c.set (o0 + i) v) _ hb' (by simp; omega) (fun u hu => hv u (by simp [hu]))
    refine ⟨w2, ?_, ?_⟩
    · simp only [storeCells, Sem.run_bind, add_lit, hr, Result.andThen_ok, h2]
    · exact hu.trans u2
theorem s_store {t : TypeId} {sz bytes : Nat} {zero : List Value} {agg : Bool} (ht : Ty P t sz bytes zero agg) {x y : Operand} (i : Nat) {b o : Nat} {c : List Value} {e : TypeId} {v : Value} {vs : List Value} (c' : List Value) (H : St N D w0 F G0 G L T a w) (hw : Region.wanted ⟨none, .store t x y, ty, pos, aft, g⟩ (yielded ops a.tmps) = true)
    (hx : ev T x = some (.pointer (some ⟨b, o, none⟩))) (hi : L[i]? = some (b, .cells c.toArray e (0, 0))) (hy : ev T y = some v) (hvs : v.cells = vs.toArray) (hl : Nat.beq vs.length sz = true) (h1 : vs.all oneCell' = true) (hle : Nat.ble (o + vs.length) c.length = true) (hset : setRow c o vs = c')
    (k : ∀ w', St N D w0 F G0 G (L.set i (b, .cells c'.toArray e (0, 0))) T a w' → WL r P ops Q rest a w') : WL r P ops Q (⟨none, .store t x y, ty, pos, aft, g⟩ :: rest) a w := by
  have hb := H.hp.own _ (List.mem_of_getElem? hi)
  obtain ⟨w2, h2, u2⟩ := run_storeCells (P := P) b e o vs 0 c w hb (by simpa using Nat.le_of_ble_eq_true hle) (fun u hu => List.all_eq_true.1 h1 u hu)
  simp only [Nat.add_zero, hset] at u2
  refine wl_unit (w' := w2) hw rfl ?_ (k w2 (H.move (H.hp.upd hi u2)))
  have hl' : vs.length = sz := Nat.eq_of_beq_eq_true hl
  simp [execOp, Instr.storeAt, Instr.sureAddr, storeVar, Sem.run_bind, H.ev hx, H.ev hy, ht.run_size, hvs, hl', h2]

/-! ### addresses, parts -/
structure Fld (P : Program) (s n off : Nat) : Prop where
  h : (match P.underlying s with | some (.struct fs) => (fs[n]?).bind fun f => (P.info? f.type).map fun i => (f.offset, i.size == 0) | _ => none) = some (off, false)
theorem Fld.parts {s n off : Nat} (h : Fld P s n off) : ∃ fs fl i, P.underlying s = some (.struct fs) ∧ fs[n]? = some fl ∧ P.info? fl.type = some i ∧ fl.offset = off ∧ i.size ≠ 0 := by
  obtain ⟨h⟩ := h
  split at h
  · rename_i fs hs
    obtain ⟨fl, hf, h2⟩ := Option.bind_eq_some_iff.1 h
    obtain ⟨i, hi, h3⟩ := Option.map_eq_some_iff.1 h2
    simp only [Prod.mk.injEq, beq_eq_false_iff_ne] at h3
    exact ⟨fs, fl, i, hs, hf, hi, h3.1, h3.2⟩
  · cases h
theorem s_field {s : TypeId} {x : Operand} {n b o off : Nat} (hs : Fld P s n off) (H : St N D w0 F G0 G L T a w) (hw : Region.wanted ⟨some d, .fieldAddr s x n, ty, pos, aft, g⟩ (yielded ops a.tmps) = true)
    (hx : ev T x = some (.pointer (some ⟨b, o, none⟩))) (hd : Nat.blt d N = true)
    (k : ∀ a', St N D w0 F G0 G L ((d, .pointer (some ⟨b, o + off, none⟩)) :: T) a' w → WL r P ops Q rest a' w) : WL r P ops Q (⟨some d, .fieldAddr s x n, ty, pos, aft, g⟩ :: rest) a w := by
  obtain ⟨fs, fl, i, h1, h2, h3, h4, h5⟩ := hs.parts
  refine wl_value (v := .pointer (some ⟨b, o + off, none⟩)) (w' := w) hw rfl ?_ (k _ (H.put hd _ H.hp))
  simp only [execOp, Instr.fieldAt, Instr.sureAddr, Sem.run_bind, H.ev hx, run_und h1, h2, Result.andThen_ok, Sem.run_pure, fieldPlace, sizeOf, run_info h3, if_neg h5, add_lit, h4]
theorem s_index {s e : TypeId} {sz bytes : Nat} {zero : List Value} {agg : Bool} (hs : P.underlying s = some (.slice e)) (ht : Ty P e sz bytes zero agg) {x y : Operand} {b o n c : Nat} {kd : IntKind} {z : Int} (i : Nat) (H : St N D w0 F G0 G L T a w) (hw : Region.wanted ⟨some d, .indexAddr s x y, ty, pos, aft, g⟩ (yielded ops a.tmps) = true)
    (hx : ev T x = some (.slice (some ⟨b, o, none⟩) n c)) (hy : ev T y = some (.int kd z)) (hz : z = (i : Int)) (hn : i < n) (hd : Nat.blt d N = true)
    (k : ∀ a', St N D w0 F G0 G L ((d, .pointer (some ⟨b, o + i * sz, none⟩)) :: T) a' w → WL r P ops Q rest a' w) : WL r P ops Q (⟨some d, .indexAddr s x y, ty, pos, aft, g⟩ :: rest) a w := by
  subst hz
  refine wl_value (v := .pointer (some ⟨b, o + i * sz, none⟩)) (w' := w) hw rfl ?_ (k _ (H.put hd _ H.hp))
  have hr : (0 : Int) ≤ i ∧ (i : Int) < (n : Int) := by omega
  simp only [execOp, Instr.indexAt, asIntOf, Sem.run_bind, H.ev hx, H.ev hy, run_und hs, Result.andThen_ok, Sem.run_pure, if_pos hr, ht.run_size, add_lit, Int.toNat_natCast]
theorem s_extract {x : Operand} {n : Nat} {vs : List Value} {v : Value} (H : St N D w0 F G0 G L T a w) (hw : Region.wanted ⟨some d, .extract x n, ty, pos, aft, g⟩ (yielded ops a.tmps) = true) (hx : ev T x = some (.tuple vs.toArray)) (hv : vs[n]? = some v) (hd : Nat.blt d N = true)
    (k : ∀ a', St N D w0 F G0 G L ((d, v) :: T) a' w → WL r P ops Q rest a' w) : WL r P ops Q (⟨some d, .extract x n, ty, pos, aft, g⟩ :: rest) a w :=
  wl_value (v := v) (w' := w) hw rfl (by simp [execOp, Instr.extract, H.ev hx, hv]) (k _ (H.put hd _ H.hp))
theorem s_nilCheck {x : Operand} {p : Addr} (H : St N D w0 F G0 G L T a w) (hw : Region.wanted ⟨some d, .nilCheck x, ty, pos, aft, g⟩ (yielded ops a.tmps) = true) (hx : ev T x = some (.pointer (some p))) (hd : Nat.blt d N = true)
    (k : ∀ a', St N D w0 F G0 G L ((d, .pointer (some p)) :: T) a' w → WL r P ops Q rest a' w) : WL r P ops Q (⟨some d, .nilCheck x, ty, pos, aft, g⟩ :: rest) a w :=
  wl_value (v := .pointer (some p)) (w' := w) hw rfl (by simp [execOp, H.ev hx]) (k _ (H.put hd _ H.hp))
theorem s_makeFunc {fn : Fn} {xs : List Operand} {vs : List Value} (H : St N D w0 F G0 G L T a w) (hw : Region.wanted ⟨some d, .makeFunc fn #[] xs.toArray, ty, pos, aft, g⟩ (yielded ops a.tmps) = true) (hx : evs T xs = some vs) (hd : Nat.blt d N = true)
    (k : ∀ a', St N D w0 F G0 G L ((d, .func fn #[] vs.toArray) :: T) a' w → WL r P ops Q rest a' w) : WL r P ops Q (⟨some d, .makeFunc fn #[] xs.toArray, ty, pos, aft, g⟩ :: rest) a w :=
  wl_value (v := .func fn #[] vs.toArray) (w' := w) hw rfl (by simp [execOp, Instr.makeFunc, H.evs hx]) (k _ (H.put hd _ H.hp))

/-! ### building rows of cells -/
/-- Parts laid into a row of cells, in order. -/
def fillL (pl : List (Nat × Nat)) : List Value → List (Nat × List Value) → Option (List Value)
  | c, [] => some c
  | c, (i, vs) :: rest => match pl[i]? with
    | none => none
    | some (off, size) => bif Nat.beq vs.length size && Nat.ble (off + vs.length) c.length then fillL pl (setRow c off vs) rest else none
theorem setRow_length : ∀ (vs : List Value) (o : Nat) (c : List Value), (setRow c o vs).length = c.length
  | [], _, _ => rfl
  | v :: vs, o, c => by simp [setRow, setRow_length vs]
theorem foldl_setRow (off : Nat) : ∀ (vs : List Value) (j : Nat) (c : List Value),
    ((vs.zipIdx j).toArray).foldl (fun cs (x : Value × Nat) => cs.setIfInBounds (off + x.2) x.1) c.toArray = (setRow c (off + j) vs).toArray
  | [], j, c => by simp [setRow]
  | v :: vs, j, c => by
    have ih := foldl_setRow off vs (j + 1) (c.set (off + j) v)
    simp only [List.zipIdx_cons, List.foldl_toArray'] at *
    simp only [List.foldl_cons, List.setIfInBounds_toArray]
    exact ih
theorem fill_eq (place : Nat → Option (Nat × Nat)) (pl : List (Nat × Nat)) (hp : ∀ i q, pl[i]? = some q → place i = some q) : ∀ (parts : List (Nat × Value)) (pl' : List (Nat × List Value)) (c c' : List Value),
    parts.map (fun x => (x.1, x.2.cells.toList)) = pl' → fillL pl c pl' = some c' → Instr.fill place c.toArray parts = some c'.toArray
  | [], pl', c, c', hm, h => by subst hm; simp [fillL] at h; subst h; rfl
  | (i, v) :: parts, pl', c, c', hm, h => by
    subst hm
    simp only [List.map_cons, fillL] at h
    split at h
    · cases h
    · rename_i off size hq
      cases hcond : (Nat.beq v.cells.toList.length size && Nat.ble (off + v.cells.toList.length) c.length) with
      | false => rw [hcond] at h; cases h
      | true =>
        rw [hcond] at h
        simp only [Bool.and_eq_true] at hcond
        have e1 := Nat.eq_of_beq_eq_true hcond.1
        have e2 := Nat.le_of_ble_eq_true hcond.2
        have ih := fill_eq place pl hp parts _ (setRow c off v.cells.toList) c' rfl h
        have hf := foldl_setRow off v.cells.toList 0 c
        simp only [Nat.add_zero] at hf
        simp only [Array.length_toList] at e1 e2
        unfold Instr.fill
        rw [hp i _ hq]
        have hz : (v.cells.zipIdx : Array (Value × Nat)) = ((v.cells.toList.zipIdx 0).toArray) := by
          apply Array.ext'; simp
        simp only [e1, ne_eq, not_true_eq_false, Bool.false_eq_true, decide_false, Bool.false_or, List.size_toArray]
        rw [if_neg (by simp; omega), hz, hf]
        exact ih
/-- A struct's type: where its fields lie. -/
structure Srt (P : Program) (t : TypeId) (pl : List (Nat × Nat)) (zero : List Value) : Prop where
  h : (match P.underlying t with | some (.struct fs) => some (fs.toList.map fun f => (f.offset, (P.info? f.type).map (·.size))) | _ => none) = some (pl.map fun q => (q.1, some q.2))
  z : (P.info? t).map (fun i => i.zero.map fun z => z.cells.toList) = some (some zero)
end steps
end Go.Proofs.YtpmcdlhhfbobfaaDoor
