/-
  A copy of a string into bytes that a call owns.
-/
import Derived.Test.YtpmcdlhhfbobfaaDoorBd
import Derived.Lib.BufferWrite
namespace Go.Proofs.YtpmcdlhhfbobfaaDoor
open Go.RowKit
section
variable {N : Nat} {D : List Deferred} {w0 : World} {F : Nat → Prop} {G0 G : GH} {L : OL} {T : List (Nat × Value)}
variable {r : Option Nat} {P : Program} {ops : Array Oper} {Q : Exit → Act → World → Prop} {rest : List Oper} {a : Act} {w : World}
variable {d : Nat} {ty : TypeId} {pos : String} {aft : Array Edge} {g : Option (Nat × Bool)}
theorem upd_setRow {w : World} {b : Nat} {c c' : Array Value} {e : TypeId} (h : w.heap[b]? = some (.cells c e (0, 0))) : Upd b (.cells c' e (0, 0)) w (w.setRow b c') := by
  have hlt : b < w.heap.size := (Array.getElem?_eq_some_iff.1 h).1
  refine ⟨rfl, rfl, rfl, by simp [World.setRow], ?_, fun k hk => ?_⟩
  · simp only [World.setRow, Array.getElem?_modify, if_pos, h, Option.map_some]
  · simp only [World.setRow, Array.getElem?_modify, if_neg (Ne.symm hk)]
theorem s_copyStr {t u e : TypeId} (hs : P.underlying t = some (.slice e)) (hz : (P.info? e).map (·.size) = some 1) {x y : Operand} {b i n : Nat} {s : ByteArray} {c : List Value} (H : St N D w0 F G0 G L T a w)
    (hw : Region.wanted ⟨some d, .call { callee := .builtin .copy, args := #[x, y], argTypes := #[t, u] }, ty, pos, aft, g⟩ (yielded ops a.tmps) = true) (hx : ev T x = some (.slice (some ⟨b, 0, none⟩) n n)) (hy : ev T y = some (.string s)) (hi : L[i]? = some (b, .cells c.toArray e (0, 0)))
    (hn : s.size = n) (hc : c.length = n) (hd : Nat.blt d N = true)
    (k : ∀ a' w', St N D w0 F G0 G (L.set i (b, .cells (Lib.byteCells s.data.toList).toArray e (0, 0))) ((d, .int .i64 n) :: T) a' w' → WL r P ops Q rest a' w') :
    WL r P ops Q (⟨some d, .call { callee := .builtin .copy, args := #[x, y], argTypes := #[t, u] }, ty, pos, aft, g⟩ :: rest) a w := by
  have hb := H.hp.own _ (List.mem_of_getElem? hi)
  have hr := Lib.run_copy_row_string (P := P) w t u ty e b 0 n n s c.toArray e hs hz hb (by omega) (by simp; omega)
  have e1 : (c.toArray.toList.take 0 ++ Lib.byteCells s.data.toList ++ c.toArray.toList.drop (0 + s.size)) = Lib.byteCells s.data.toList := by
    simp; omega
  rw [e1] at hr
  refine wl_value (v := .int .i64 n) (w' := w.setRow b (Lib.byteCells s.data.toList).toArray) hw rfl ?_ (k _ _ (H.put hd _ (H.hp.upd hi (upd_setRow hb))))
  simp [execOp, resolve, invoke, builtin, H.ev hx, H.ev hy, Sem.run_bind, hr, goInt, hn]
end
end Go.Proofs.YtpmcdlhhfbobfaaDoor
