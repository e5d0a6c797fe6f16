/-
  Equality of values that are made of ints.
-/
import Derived.Test.YtpmcdlhhfbobfaaDoorOq
import Derived.Laws.StructEq
import Derived.ChangeKeysEq
namespace Go.Proofs.YtpmcdlhhfbobfaaDoor
open Go.RowKit
def getI (xs : Array Value) (o : Nat) : Option Int := match xs[o]? with | some (.int .i64 n) => some n | _ => none
def isI (u : Option TypeDesc) : Bool := match u with | some (.int .i64) => true | _ => false
structure EqI (P : Program) (t : TypeId) (offs : List Nat) : Prop where
  und : P.underlying t = some (.struct (P.fieldsOf t))
  held : P.stoodInHeld t = false
  guard : P.eqGuardType P.depth t = false
  flds : (P.fieldsOf t).toList.map (·.offset) = offs
  ok : (P.fieldsOf t).toList.all (fun f => decide (f.name ≠ "_") && P.plainKey f.type && isI (P.underlying f.type)) = true
theorem run_eqFields_int {P : Program} {w : World} {d : Nat} {xs ys : Array Value} : ∀ fs : List Field, fs.all (fun f => decide (f.name ≠ "_") && P.plainKey f.type && isI (P.underlying f.type)) = true →
    (fs.map (·.offset)).all (fun o => (getI xs o).isSome && (getI ys o).isSome) = true → (Op.eqFields (d + 1) xs ys fs).run P w = .ok ((fs.map (·.offset)).all fun o => getI xs o == getI ys o) w
  | [], _, _ => by simp [Op.eqFields]
  | f :: fs, h1, h2 => by
    simp only [List.all_cons, Bool.and_eq_true, decide_eq_true_eq, List.map_cons] at h1 h2
    obtain ⟨⟨⟨hn, hp⟩, hi⟩, h1⟩ := h1
    obtain ⟨⟨hx, hy⟩, h2⟩ := h2
    have ih := run_eqFields_int (w := w) (d := d) fs (by simpa using h1) h2
    unfold isI at hi
    split at hi
    · rename_i hu
      unfold getI at hx hy
      split at hx
      · rename_i m hxm
        split at hy
        · rename_i m2 hym
          have e1 : getI xs f.offset = some m := by unfold getI; rw [hxm]
          have e2 : getI ys f.offset = some m2 := by unfold getI; rw [hym]
          simp only [Op.eqFields, hn, ne_eq, not_false_eq_true, if_true, Sem.run_bind, run_part_plain w hp hxm, run_part_plain w hp hym, Result.andThen_ok, run_equalIn_int w d f.type .i64 .i64 m m2 hu, List.map_cons, List.all_cons, e1, e2]
          by_cases e : m = m2
          · subst e; simp [ih, List.all_map]
          · simp [e]
        · simp at hy
      · simp at hx
    · simp at hi
/-- The same for ints and bools: what a field holds. -/
def getV (xs : Array Value) (o : Nat × Bool) : Option (Int × Bool) := match xs[o.1]?, o.2 with | some (.int .i64 n), false => some (n, false) | some (.bool b), true => some (0, b) | _, _ => none
def isV (u : Option TypeDesc) (b : Bool) : Bool := match u, b with | some (.int .i64), false => true | some .bool, true => true | _, _ => false
structure EqS (P : Program) (t : TypeId) (offs : List (Nat × Bool)) : Prop where
  und : P.underlying t = some (.struct (P.fieldsOf t))
  held : P.stoodInHeld t = false
  guard : P.eqGuardType P.depth t = false
  flds : (P.fieldsOf t).toList.map (fun f => (f.offset, isV (P.underlying f.type) true)) = offs
  ok : (P.fieldsOf t).toList.all (fun f => decide (f.name ≠ "_") && P.plainKey f.type && isV (P.underlying f.type) (isV (P.underlying f.type) true)) = true
theorem run_eqFields_val {P : Program} {w : World} {d : Nat} {xs ys : Array Value} : ∀ fs : List Field, fs.all (fun f => decide (f.name ≠ "_") && P.plainKey f.type && isV (P.underlying f.type) (isV (P.underlying f.type) true)) = true →
    (fs.map (fun f => (f.offset, isV (P.underlying f.type) true))).all (fun o => (getV xs o).isSome && (getV ys o).isSome) = true → (Op.eqFields (d + 1) xs ys fs).run P w = .ok ((fs.map (fun f => (f.offset, isV (P.underlying f.type) true))).all fun o => getV xs o == getV ys o) w
  | [], _, _ => by simp [Op.eqFields]
  | f :: fs, h1, h2 => by
    simp only [List.all_cons, Bool.and_eq_true, decide_eq_true_eq, List.map_cons] at h1 h2
    obtain ⟨⟨⟨hn, hp⟩, hi⟩, h1⟩ := h1
    obtain ⟨⟨hx, hy⟩, h2⟩ := h2
    have ih := run_eqFields_val (w := w) (d := d) fs (by simpa using h1) h2
    obtain ⟨kb, hkb⟩ : ∃ kb, kb = isV (P.underlying f.type) true := ⟨_, rfl⟩
    rw [← hkb] at hi hx hy
    cases kb with
    | false =>
      have hu : P.underlying f.type = some (.int .i64) := by clear hkb ih h1 h2 hx hy; unfold isV at hi; split at hi <;> simp_all
      obtain ⟨m, hxm⟩ : ∃ m, xs[f.offset]? = some (.int .i64 m) := by clear hkb ih h1 h2 hi hy; unfold getV at hx; split at hx <;> simp_all
      obtain ⟨m2, hym⟩ : ∃ m, ys[f.offset]? = some (.int .i64 m) := by clear hkb ih h1 h2 hi hx; unfold getV at hy; split at hy <;> simp_all
      have e1 : getV xs (f.offset, false) = some (m, false) := by unfold getV; rw [hxm]
      have e2 : getV ys (f.offset, false) = some (m2, false) := by unfold getV; rw [hym]
      simp only [Op.eqFields, hn, ne_eq, not_false_eq_true, if_true, Sem.run_bind, run_part_plain w hp hxm, run_part_plain w hp hym, Result.andThen_ok, run_equalIn_int w d f.type .i64 .i64 m m2 hu, List.map_cons, List.all_cons, ← hkb, e1, e2]
      by_cases e : m = m2
      · subst e; simp [ih, List.all_map]
      · simp [e]
    | true =>
      have hu : P.underlying f.type = some .bool := by clear hkb ih h1 h2 hx hy; unfold isV at hi; split at hi <;> simp_all
      obtain ⟨m, hxm⟩ : ∃ m, xs[f.offset]? = some (.bool m) := by clear hkb ih h1 h2 hi hy; unfold getV at hx; split at hx <;> simp_all
      obtain ⟨m2, hym⟩ : ∃ m, ys[f.offset]? = some (.bool m) := by clear hkb ih h1 h2 hi hx; unfold getV at hy; split at hy <;> simp_all
      have e1 : getV xs (f.offset, true) = some (0, m) := by unfold getV; rw [hxm]
      have e2 : getV ys (f.offset, true) = some (0, m2) := by unfold getV; rw [hym]
      simp only [Op.eqFields, hn, ne_eq, not_false_eq_true, if_true, Sem.run_bind, run_part_plain w hp hxm, run_part_plain w hp hym, Result.andThen_ok, run_equalIn_bool' w d f.type m m2 hu, List.map_cons, List.all_cons, ← hkb, e1, e2]
      by_cases e : m = m2
      · subst e; simp [ih, List.all_map]
      · simp [e]
section
variable {N : Nat} {D : List Deferred} {w0 : World} {F : Nat → Prop} {G0 G : GH} {L : List (Nat × Obj)} {T : List (Nat × Value)}
variable {r : Option Nat} {P : Program} {ops : Array Oper} {Q : Exit → Act → World → Prop} {rest : List Oper} {a : Act} {w : World}
variable {d : Nat} {ty : TypeId} {pos : String} {aft : Array Edge} {g : Option (Nat × Bool)}
theorem s_eqagg {t yt : TypeId} {offs : List Nat} (he : EqI P t offs) {x y : Operand} {xs ys : Array Value} (H : St N D w0 F G0 G L T a w) (hw : Region.wanted ⟨some d, .binOp .eql t x y yt, ty, pos, aft, g⟩ (yielded ops a.tmps) = true) (hx : ev T x = some (.agg xs)) (hy : ev T y = some (.agg ys))
    (hi : offs.all (fun o => (getI xs o).isSome && (getI ys o).isSome) = true) (hd : Nat.blt d N = true)
    (k : ∀ a', St N D w0 F G0 G L ((d, .bool (offs.all fun o => getI xs o == getI ys o)) :: T) a' w → WL r P ops Q rest a' w) : WL r P ops Q (⟨some d, .binOp .eql t x y yt, ty, pos, aft, g⟩ :: rest) a w := by
  refine wl_value (v := .bool (offs.all fun o => getI xs o == getI ys o)) (w' := w) hw rfl ?_ (k _ (H.put hd _ H.hp))
  have h1 := run_eqFields_int (P := P) (w := w) (d := 9998) (xs := xs) (ys := ys) _ he.ok (by rw [he.flds]; exact hi)
  rw [he.flds] at h1
  simp only [execOp, H.ev hx, H.ev hy, Sem.run_bind, run_eqGuard_agg w .eql t x y xs ys he.guard, Result.andThen_ok, run_eql_struct, run_equalIn_struct w 9999 t xs ys he.und he.held, h1]
  rfl
theorem s_neqb {t yt : TypeId} (hu : P.underlying t = some .bool) {x y : Operand} {p q : Bool} (H : St N D w0 F G0 G L T a w) (hw : Region.wanted ⟨some d, .binOp .neq t x y yt, ty, pos, aft, g⟩ (yielded ops a.tmps) = true) (hx : ev T x = some (.bool p)) (hy : ev T y = some (.bool q)) (hd : Nat.blt d N = true)
    (k : ∀ a', St N D w0 F G0 G L ((d, .bool (!(p == q))) :: T) a' w → WL r P ops Q rest a' w) : WL r P ops Q (⟨some d, .binOp .neq t x y yt, ty, pos, aft, g⟩ :: rest) a w := by
  refine wl_value (v := .bool (!(p == q))) (w' := w) hw rfl ?_ (k _ (H.put hd _ H.hp))
  simp [execOp, H.ev hx, H.ev hy, Sem.run_bind, eqGuard, binOp, Op.equal, Op.maxDepth, run_equalIn_bool' w 9999 t p q hu]
theorem s_eqstr {t yt : TypeId} {x y : Operand} {p q : ByteArray} (H : St N D w0 F G0 G L T a w) (hw : Region.wanted ⟨some d, .binOp .eql t x y yt, ty, pos, aft, g⟩ (yielded ops a.tmps) = true) (hx : ev T x = some (.string p)) (hy : ev T y = some (.string q)) (hd : Nat.blt d N = true)
    (k : ∀ a', St N D w0 F G0 G L ((d, .bool (p.toList == q.toList)) :: T) a' w → WL r P ops Q rest a' w) : WL r P ops Q (⟨some d, .binOp .eql t x y yt, ty, pos, aft, g⟩ :: rest) a w := by
  refine wl_value (v := .bool (p.toList == q.toList)) (w' := w) hw rfl ?_ (k _ (H.put hd _ H.hp))
  simp [execOp, H.ev hx, H.ev hy, Sem.run_bind, eqGuard, binOp, Op.stringOp]
theorem s_quo {t yt : TypeId} {x y : Operand} {p q : Int} (z : Int) (H : St N D w0 F G0 G L T a w) (hw : Region.wanted ⟨some d, .binOp .quo t x y yt, ty, pos, aft, g⟩ (yielded ops a.tmps) = true) (hx : ev T x = some (.int .i64 p)) (hy : ev T y = some (.int .i64 q)) (hq : ¬ q = 0) (hz : p.tdiv q = z) (h1 : -9223372036854775808 ≤ z) (h2 : z < 9223372036854775808) (hd : Nat.blt d N = true)
    (k : ∀ a', St N D w0 F G0 G L ((d, .int .i64 z) :: T) a' w → WL r P ops Q rest a' w) : WL r P ops Q (⟨some d, .binOp .quo t x y yt, ty, pos, aft, g⟩ :: rest) a w := by
  subst hz
  refine wl_value (v := .int .i64 (p.tdiv q)) (w' := w) hw rfl ?_ (k _ (H.put hd _ H.hp))
  simp [execOp, H.ev hx, H.ev hy, Sem.run_bind, eqGuard, binOp, Op.intDiv, hq, i64_wrap h1 h2]
theorem s_eqs {op : BinOp} {t yt : TypeId} {offs : List (Nat × Bool)} (ho : op = .eql ∨ op = .neq) (he : EqS P t offs) {x y : Operand} {xs ys : Array Value} (H : St N D w0 F G0 G L T a w) (hw : Region.wanted ⟨some d, .binOp op t x y yt, ty, pos, aft, g⟩ (yielded ops a.tmps) = true) (hx : ev T x = some (.agg xs)) (hy : ev T y = some (.agg ys))
    (hi : offs.all (fun o => (getV xs o).isSome && (getV ys o).isSome) = true) (hd : Nat.blt d N = true)
    (k : ∀ a', St N D w0 F G0 G L ((d, .bool (if op = .eql then offs.all fun o => getV xs o == getV ys o else !(offs.all fun o => getV xs o == getV ys o))) :: T) a' w → WL r P ops Q rest a' w) : WL r P ops Q (⟨some d, .binOp op t x y yt, ty, pos, aft, g⟩ :: rest) a w := by
  have h1 := run_eqFields_val (P := P) (w := w) (d := 9998) (xs := xs) (ys := ys) _ he.ok (by rw [he.flds]; exact hi)
  rw [he.flds] at h1
  rcases ho with rfl | rfl
  · refine wl_value (v := _) (w' := w) hw rfl ?_ (k _ (H.put hd _ H.hp))
    simp only [execOp, H.ev hx, H.ev hy, Sem.run_bind, run_eqGuard_agg w .eql t x y xs ys he.guard, Result.andThen_ok, run_eql_struct, run_equalIn_struct w 9999 t xs ys he.und he.held, h1]
    rfl
  · refine wl_value (v := _) (w' := w) hw rfl ?_ (k _ (H.put hd _ H.hp))
    simp only [execOp, H.ev hx, H.ev hy, Sem.run_bind, run_eqGuard_agg w .neq t x y xs ys he.guard, Result.andThen_ok, run_neq_struct, run_equalIn_struct w 9999 t xs ys he.und he.held, h1]
    rfl
end
end Go.Proofs.YtpmcdlhhfbobfaaDoor
