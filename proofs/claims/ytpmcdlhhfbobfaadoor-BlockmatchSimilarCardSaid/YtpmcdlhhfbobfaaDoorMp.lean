/-
  Maps that a call owns.
-/
import Derived.Test.YtpmcdlhhfbobfaaDoorBd
import Derived.Test.YtpmcdlhhfbobfaaDoorEq
import Derived.MapKept
namespace Go.Proofs.YtpmcdlhhfbobfaaDoor
open Go.RowKit
section
variable {N : Nat} {D : List Deferred} {w0 : World} {F : Nat → Prop} {G0 G : GH} {L : OL} {T : List (Nat × Value)}
variable {r : Option Nat} {P : Program} {ops : Array Oper} {Q : Exit → Act → World → Prop} {rest : List Oper} {a : Act} {w : World}
variable {d : Nat} {ty : TypeId} {pos : String} {aft : Array Edge} {g : Option (Nat × Bool)}
theorem s_makeMap {t : TypeId} (H : St N D w0 F G0 G L T a w) (hw : Region.wanted ⟨some d, .makeMap t none, ty, pos, aft, g⟩ (yielded ops a.tmps) = true) (hd : Nat.blt d N = true)
    (k : ∀ b a' w', w0.heap.size ≤ b → St N D w0 F G0 G ((b, .map #[] 0) :: L) ((d, .map (some b)) :: T) a' w' → WL r P ops Q rest a' w') : WL r P ops Q (⟨some d, .makeMap t none, ty, pos, aft, g⟩ :: rest) a w := by
  refine wl_value (v := .map (some w.heap.size)) (w' := w.alloc (.map #[] 0)) hw rfl ?_ (k _ _ _ H.hp.size (H.put hd _ (H.hp.alloc _)))
  simp [execOp, Instr.makeMap, newObj, Sem.run, Sem.run_bind]
/-- What a lookup finds. -/
def mapV (an : Option (Nat × Value)) (zv : Value) : Value × Bool := match an with | some (_, v) => (v, true) | none => (zv, false)
theorem s_lookup {t kt et : TypeId} {kd : TypeDesc} {x y : Operand} {b i clock : Nat} {es : Array MapEntry} {ky zv : Value} (an : Option (Nat × Value)) (hm : P.underlying t = some (.map kt et)) (hk : P.underlying kt = some kd) (hz : (P.info? et).map (fun i => i.zero) = some (some zv)) (H : St N D w0 F G0 G L T a w)
    (hw : Region.wanted ⟨some d, .lookup t x y true, ty, pos, aft, g⟩ (yielded ops a.tmps) = true) (hx : ev T x = some (.map (some b))) (hy : ev T y = some ky) (hi : L[i]? = some (b, .map es clock)) (hky : MapKept.IsKey kd ky) (hf : Instr.findNow kd ky es.toList 0 = some an) (hd : Nat.blt d N = true)
    (k : ∀ a', St N D w0 F G0 G L ((d, .tuple #[(mapV an zv).1, .bool (mapV an zv).2]) :: T) a' w → WL r P ops Q rest a' w) : WL r P ops Q (⟨some d, .lookup t x y true, ty, pos, aft, g⟩ :: rest) a w := by
  have hb : w.heap[b]? = some (.map es clock) := H.hp.own _ (List.mem_of_getElem? hi)
  obtain ⟨inf, hi1, hi2⟩ := Option.map_eq_some_iff.1 hz
  refine wl_value (v := .tuple #[(mapV an zv).1, .bool (mapV an zv).2]) (w' := w) hw rfl ?_ (k _ (H.put hd _ H.hp))
  have h1 := MapKept.run_checkKey (w := w) hk hky es.isEmpty 9999
  have h2 := MapKept.run_findKey (w := w) hk hf
  cases an with
  | none => simp [execOp, Instr.lookup, H.ev hx, H.ev hy, Sem.run_bind, run_und hm, MapKept.run_getObj_map hb, h1, h2, Result.andThen, zeroValue, run_info hi1, hi2, mapV]
  | some q => simp [execOp, Instr.lookup, H.ev hx, H.ev hy, Sem.run_bind, run_und hm, MapKept.run_getObj_map hb, h1, h2, Result.andThen, mapV]
theorem upd_map {w : World} {b clock : Nat} {es : Array MapEntry} {o : Obj} (h : w.heap[b]? = some (.map es clock)) : Upd b o w { w with heap := w.heap.setIfInBounds b o } := by
  have hlt : b < w.heap.size := (Array.getElem?_eq_some_iff.1 h).1
  refine ⟨rfl, rfl, rfl, by simp, by simp [hlt], fun k hk => ?_⟩
  simp only
  rw [Array.getElem?_setIfInBounds_ne (Ne.symm hk)]
/-- A key that is not there yet. -/
theorem s_mapNew {t kt et : TypeId} {kd : TypeDesc} {x y z : Operand} {b i clock : Nat} {es : Array MapEntry} {ky v : Value} (hm : P.underlying t = some (.map kt et)) (hk : P.underlying kt = some kd) (H : St N D w0 F G0 G L T a w)
    (hw : Region.wanted ⟨none, .mapUpdate t x y z, ty, pos, aft, g⟩ (yielded ops a.tmps) = true) (hx : ev T x = some (.map (some b))) (hy : ev T y = some ky) (hzv : ev T z = some v) (hi : L[i]? = some (b, .map es clock)) (hky : MapKept.IsKey kd ky) (hf : Instr.findNow kd ky es.toList 0 = some none)
    (k : ∀ w', St N D w0 F G0 G (L.set i (b, .map (es.push ⟨ky, v, clock⟩) (clock + 1))) T a w' → WL r P ops Q rest a w') : WL r P ops Q (⟨none, .mapUpdate t x y z, ty, pos, aft, g⟩ :: rest) a w := by
  have hb : w.heap[b]? = some (.map es clock) := H.hp.own _ (List.mem_of_getElem? hi)
  have h1 := MapKept.run_checkKey (w := w) hk hky false 9999
  have h2 := MapKept.run_findKey (w := w) hk hf
  refine wl_unit (w' := { w with heap := w.heap.setIfInBounds b (.map (es.push ⟨ky, v, clock⟩) (clock + 1)) }) hw rfl ?_ (k _ (H.move (H.hp.upd hi (upd_map hb))))
  simp [execOp, Instr.mapUpdate, H.ev hx, H.ev hy, H.ev hzv, Sem.run_bind, run_und hm, MapKept.run_getObj_map hb, h1, h2, MapKept.run_setObj_map _ hb, Result.andThen]
theorem s_lenMap {x : Operand} {t kt et : TypeId} {b i clock : Nat} {es : Array MapEntry} (hs : P.underlying t = some (.map kt et)) (H : St N D w0 F G0 G L T a w) (hw : Region.wanted ⟨some d, .call { callee := .builtin .len, args := #[x], argTypes := #[t] }, ty, pos, aft, g⟩ (yielded ops a.tmps) = true) (hx : ev T x = some (.map (some b))) (hi : L[i]? = some (b, .map es clock)) (hd : Nat.blt d N = true)
    (k : ∀ a', St N D w0 F G0 G L ((d, .int .i64 es.size) :: T) a' w → WL r P ops Q rest a' w) : WL r P ops Q (⟨some d, .call { callee := .builtin .len, args := #[x], argTypes := #[t] }, ty, pos, aft, g⟩ :: rest) a w := by
  have hb : w.heap[b]? = some (.map es clock) := H.hp.own _ (List.mem_of_getElem? hi)
  exact wl_value (v := .int .i64 es.size) (w' := w) hw rfl (by simp [execOp, resolve, invoke, builtin, Builtin.len_, H.ev hx, Sem.run_bind, run_und hs, MapKept.run_getObj_map hb, goInt, Result.andThen]) (k _ (H.put hd _ H.hp))
theorem s_eqlb {t yt : TypeId} (hu : P.underlying t = some .bool) {x y : Operand} {p q : Bool} (H : St N D w0 F G0 G L T a w) (hw : Region.wanted ⟨some d, .binOp .eql t x y yt, ty, pos, aft, g⟩ (yielded ops a.tmps) = true) (hx : ev T x = some (.bool p)) (hy : ev T y = some (.bool q)) (hd : Nat.blt d N = true)
    (k : ∀ a', St N D w0 F G0 G L ((d, .bool (p == q)) :: T) a' w → WL r P ops Q rest a' w) : WL r P ops Q (⟨some d, .binOp .eql t x y yt, ty, pos, aft, g⟩ :: rest) a w := by
  refine wl_value (v := .bool (p == q)) (w' := w) hw rfl ?_ (k _ (H.put hd _ H.hp))
  simp [execOp, H.ev hx, H.ev hy, Sem.run_bind, eqGuard, binOp, Op.equal, Op.maxDepth, run_equalIn_bool' w 9999 t p q hu]
theorem s_remk {kd : IntKind} {t yt : TypeId} {x y : Operand} {p q : Int} (z : Int) (H : St N D w0 F G0 G L T a w) (hw : Region.wanted ⟨some d, .binOp .rem t x y yt, ty, pos, aft, g⟩ (yielded ops a.tmps) = true) (hx : ev T x = some (.int kd p)) (hy : ev T y = some (.int kd q)) (hq : ¬ q = 0) (hz : p.tmod q = z) (hd : Nat.blt d N = true)
    (k : ∀ a', St N D w0 F G0 G L ((d, .int kd z) :: T) a' w → WL r P ops Q rest a' w) : WL r P ops Q (⟨some d, .binOp .rem t x y yt, ty, pos, aft, g⟩ :: rest) a w := by
  subst hz
  refine wl_value (v := .int kd (p.tmod q)) (w' := w) hw rfl ?_ (k _ (H.put hd _ H.hp))
  simp [execOp, H.ev hx, H.ev hy, Sem.run_bind, eqGuard, binOp, Op.intDiv, hq]
theorem s_neqstr {t yt : TypeId} {x y : Operand} {p q : ByteArray} (H : St N D w0 F G0 G L T a w) (hw : Region.wanted ⟨some d, .binOp .neq t x y yt, ty, pos, aft, g⟩ (yielded ops a.tmps) = true) (hx : ev T x = some (.string p)) (hy : ev T y = some (.string q)) (hd : Nat.blt d N = true)
    (k : ∀ a', St N D w0 F G0 G L ((d, .bool (!(p.toList == q.toList))) :: T) a' w → WL r P ops Q rest a' w) : WL r P ops Q (⟨some d, .binOp .neq t x y yt, ty, pos, aft, g⟩ :: rest) a w := by
  refine wl_value (v := .bool (!(p.toList == q.toList))) (w' := w) hw rfl ?_ (k _ (H.put hd _ H.hp))
  simp [execOp, H.ev hx, H.ev hy, Sem.run_bind, eqGuard, binOp, Op.stringOp]
theorem Hp.mcell (h : Hp w0 F G0 G L w) {b o : Nat} {c : Array Value} {e : TypeId} {fz : Nat × Nat} {v : Value} (hm : (b, Obj.cells c e fz) ∈ L) (hv : c[o]? = some v) : w.cell? ⟨b, o, none⟩ = some v := by
  have := h.own _ hm
  simp only [World.cell?, this]
  exact hv
end
end Go.Proofs.YtpmcdlhhfbobfaaDoor
