/-
  Equality of values that are made of ints.
-/
import Derived.Test.YtbfdhlakbdadhaaOq
import Derived.Laws.StructEq
import Derived.ChangeKeysEq
namespace Go.Proofs.Ytbfdhlakbdadhaa
open Go.RowKit
def getI (xs : Array Value) (o : Nat) : Option Int := match xs[o]? with | some (.int .i64 n) => some n | _ => none
def isI (u : Option TypeDesc) : Bool := match u with | some (.int .i64) => true | _ => false
structure EqI (P : Program) (t : TypeId) (offs : List Nat) : Prop where
  und : P.underlying t = some (.struct (P.fieldsOf t))
  held : P.stoodInHeld t = false
  guard : P.eqGuardType P.depth t = false
  flds : (P.fieldsOf t).toList.map (·.offset) = offs
  ok : (P.fieldsOf t).toList.all (fun f => decide (f.name ≠ "_") && P.plainKey f.type && isI (P.underlying f.type)) = true
theorem run_eqFields_int {P : Program} {w : World} {d : Nat} {xs ys : Array Value} : ∀ fs : List Field, fs.all (fun f => decide (f.name ≠ "_") && P.plainKey f.type && isI (P.underlying f.type)) = true →
    (fs.map (·.offset)).all (fun o => (getI xs o).isSome && (getI ys o).isSome) = true → (Op.eqFields (d + 1) xs ys fs).run P w = .ok ((fs.map (·.offset)).all fun o => getI xs o == getI ys o) w
  | [], _, _ => by simp [Op.eqFields]
  | f :: fs, h1, h2 => by
    simp only [List.all_cons, Bool.and_eq_true, decide_eq_true_eq, List.map_cons] at h1 h2
    obtain ⟨⟨⟨hn, hp⟩, hi⟩, h1⟩ := h1
    obtain ⟨⟨hx, hy⟩, h2⟩ := h2
    have ih := run_eqFields_int (w := w) (d := d) fs (by simpa using h1) h2
    unfold isI at hi
    split at hi
    · rename_i hu
      unfold getI at hx hy
      split at hx
      · rename_i m hxm
        split at hy
        · rename_i m2 hym
          have e1 : getI xs f.offset = some m := by unfold getI; rw [hxm]
          have e2 : getI ys f.offset = some m2 := by unfold getI; rw [hym]
          simp only [Op.eqFields, hn, ne_eq, not_false_eq_true, if_true, Sem.run_bind, run_part_plain w hp hxm, run_part_plain w hp hym, Result.andThen_ok, run_equalIn_int w d f.type .i64 .i64 m m2 hu, List.map_cons, List.all_cons, e1, e2]
          by_cases e : m = m2
          · subst e; simp [ih, List.all_map]
          · simp [e]
        · simp at hy
      · simp at hx
    · simp at hi
section
variable {N : Nat} {D : List Deferred} {w0 : World} {F : Nat → Prop} {G0 G : GH} {L : List (Nat × Obj)} {T : List (Nat × Value)}
variable {r : Option Nat} {P : Program} {ops : Array Oper} {Q : Exit → Act → World → Prop} {rest : List Oper} {a : Act} {w : World}
variable {d : Nat} {ty : TypeId} {pos : String} {aft : Array Edge} {g : Option (Nat × Bool)}
theorem s_eqagg {t yt : TypeId} {offs : List Nat} (he : EqI P t offs) {x y : Operand} {xs ys : Array Value} (H : St N D w0 F G0 G L T a w) (hw : Region.wanted ⟨some d, .binOp .eql t x y yt, ty, pos, aft, g⟩ (yielded ops a.tmps) = true) (hx : ev T x = some (.agg xs)) (hy : ev T y = some (.agg ys))
    (hi : offs.all (fun o => (getI xs o).isSome && (getI ys o).isSome) = true) (hd : Nat.blt d N = true)
    (k : ∀ a', St N D w0 F G0 G L ((d, .bool (offs.all fun o => getI xs o == getI ys o)) :: T) a' w → WL r P ops Q rest a' w) : WL r P ops Q (⟨some d, .binOp .eql t x y yt, ty, pos, aft, g⟩ :: rest) a w := by
  refine wl_value (v := .bool (offs.all fun o => getI xs o == getI ys o)) (w' := w) hw rfl ?_ (k _ (H.put hd _ H.hp))
  have h1 := run_eqFields_int (P := P) (w := w) (d := 9998) (xs := xs) (ys := ys) _ he.ok (by rw [he.flds]; exact hi)
  rw [he.flds] at h1
  simp only [execOp, H.ev hx, H.ev hy, Sem.run_bind, run_eqGuard_agg w .eql t x y xs ys he.guard, Result.andThen_ok, run_eql_struct, run_equalIn_struct w 9999 t xs ys he.und he.held, h1]
  rfl
theorem s_neqb {t yt : TypeId} (hu : P.underlying t = some .bool) {x y : Operand} {p q : Bool} (H : St N D w0 F G0 G L T a w) (hw : Region.wanted ⟨some d, .binOp .neq t x y yt, ty, pos, aft, g⟩ (yielded ops a.tmps) = true) (hx : ev T x = some (.bool p)) (hy : ev T y = some (.bool q)) (hd : Nat.blt d N = true)
    (k : ∀ a', St N D w0 F G0 G L ((d, .bool (!(p == q))) :: T) a' w → WL r P ops Q rest a' w) : WL r P ops Q (⟨some d, .binOp .neq t x y yt, ty, pos, aft, g⟩ :: rest) a w := by
  refine wl_value (v := .bool (!(p == q))) (w' := w) hw rfl ?_ (k _ (H.put hd _ H.hp))
  simp [execOp, H.ev hx, H.ev hy, Sem.run_bind, eqGuard, binOp, Op.equal, Op.maxDepth, run_equalIn_bool' w 9999 t p q hu]
end
end Go.Proofs.Ytbfdhlakbdadhaa
