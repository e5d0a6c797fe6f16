/-
  make of slices, max of three.
-/
import Derived.Test.YtpmcdlhhfbobfaaDoorDy
import Derived.Laws.MakeOwn
namespace Go.Proofs.YtpmcdlhhfbobfaaDoor
open Go.RowKit
section
variable {N : Nat} {D : List Deferred} {w0 : World} {F : Nat → Prop} {G0 G : GH} {L Li Lo : OL} {T : List (Nat × Value)}
variable {r : Option Nat} {P : Program} {ops : Array Oper} {Q : Exit → Act → World → Prop} {rest : List Oper} {a : Act} {w : World}
variable {d : Nat} {ty : TypeId} {pos : String} {aft : Array Edge} {g : Option (Nat × Bool)}
theorem s_max3 {x y z : Operand} {t t' t'' : TypeId} {kd : IntKind} {p q s : Int} (H : St N D w0 F G0 G L T a w) (hw : Region.wanted ⟨some d, .call { callee := .builtin .max, args := #[x, y, z], argTypes := #[t, t', t''] }, ty, pos, aft, g⟩ (yielded ops a.tmps) = true) (hx : ev T x = some (.int kd p)) (hy : ev T y = some (.int kd q)) (hz : ev T z = some (.int kd s)) (hd : Nat.blt d N = true)
    (k : ∀ a', St N D w0 F G0 G L ((d, .int kd (max (max p q) s)) :: T) a' w → WL r P ops Q rest a' w) : WL r P ops Q (⟨some d, .call { callee := .builtin .max, args := #[x, y, z], argTypes := #[t, t', t''] }, ty, pos, aft, g⟩ :: rest) a w := by
  refine wl_value (v := .int kd (max (max p q) s)) (w' := w) hw rfl ?_ (k _ (H.put hd _ H.hp))
  have e : ∀ p q : Int, (if q > p then q else p) = max p q := by intro p q; omega
  simp [execOp, resolve, invoke, builtin, Builtin.max_, Builtin.max2, H.ev hx, H.ev hy, H.ev hz, Sem.run_bind, e]
theorem made_one (z : Value) (n : Nat) : madeCells #[z] n = (List.replicate n z).toArray := by
  apply Array.ext
  · simp [madeCells]
  · intro i h1 h2
    simp [madeCells, Nat.mod_one]
/-- make of a slice whose elements have one cell each. -/
theorem s_make1 {t e : TypeId} {z : Value} {bytes : Nat} {x y : Operand} {p : Int} (n : Nat) (hs : P.underlying t = some (.slice e)) (ht : Ty P e 1 bytes [z] false) (H : St N D w0 F G0 G L T a w) (hw : Region.wanted ⟨some d, .makeSlice t x y, ty, pos, aft, g⟩ (yielded ops a.tmps) = true)
    (hx : ev T x = some (.int .i64 p)) (hy : ev T y = some (.int .i64 p)) (hp : p = (n : Int)) (hb : bytes * n ≤ 281474976710656) (h63 : n ≤ 9223372036854775807) (hd : Nat.blt d N = true)
    (k : ∀ b a' w', w0.heap.size ≤ b → St N D w0 F G0 G ((b, .cells (List.replicate n z).toArray e (0, 0)) :: L) ((d, .slice (some ⟨b, 0, none⟩) n n) :: T) a' w' → WL r P ops Q rest a' w') : WL r P ops Q (⟨some d, .makeSlice t x y, ty, pos, aft, g⟩ :: rest) a w := by
  obtain ⟨i, z0, hi, hi1, hi2, hi3, hi4⟩ := ht.parts
  subst hp
  have hz : z0.cells = #[z] := by rw [hi4]
  have hb' : (i.bytes : Int) * (n : Int) ≤ 281474976710656 := by
    rw [hi2, ← Int.natCast_mul]; omega
  have hr := run_make (P := P) w t e i z0 hs hi hi3 .i64 .i64 (n : Int) (n : Int) (by omega) (Int.le_refl _) hb' (by omega)
  rw [hi1, hz, Nat.mul_one, Int.toNat_natCast, made_one] at hr
  refine wl_value (v := .slice (some ⟨w.heap.size, 0, none⟩) n n) (w' := w.alloc (.cells (List.replicate n z).toArray e (0, 0))) hw rfl ?_ (k _ _ _ H.hp.size (H.put hd _ (H.hp.alloc _)))
  simp only [execOp, H.ev hx, H.ev hy, Sem.run_bind, hr, Result.andThen_ok, Sem.run_pure]
theorem s_indexArr {t e : TypeId} {n sz bytes : Nat} {zero : List Value} {agg : Bool} (hs : P.underlying t = some (.array n e)) (ht : Ty P e sz bytes zero agg) {x y : Operand} {b o : Nat} {kd : IntKind} {z : Int} (i : Nat) (H : St N D w0 F G0 G L T a w) (hw : Region.wanted ⟨some d, .indexAddr t x y, ty, pos, aft, g⟩ (yielded ops a.tmps) = true)
    (hx : ev T x = some (.pointer (some ⟨b, o, none⟩))) (hy : ev T y = some (.int kd z)) (hz : z = (i : Int)) (hn : i < n) (hd : Nat.blt d N = true)
    (k : ∀ a', St N D w0 F G0 G L ((d, .pointer (some ⟨b, o + i * sz, none⟩)) :: T) a' w → WL r P ops Q rest a' w) : WL r P ops Q (⟨some d, .indexAddr t x y, ty, pos, aft, g⟩ :: rest) a w := by
  subst hz
  refine wl_value (v := .pointer (some ⟨b, o + i * sz, none⟩)) (w' := w) hw rfl ?_ (k _ (H.put hd _ H.hp))
  have hr : (0 : Int) ≤ i ∧ (i : Int) < (n : Int) := by omega
  simp only [execOp, Instr.indexAt, asIntOf, Sem.run_bind, H.ev hx, H.ev hy, run_und hs, Result.andThen_ok, Sem.run_pure, Instr.sureAddr, if_pos hr, ht.run_size, add_lit, Int.toNat_natCast]
theorem s_cap {x : Operand} {t e : TypeId} {A : Option Addr} {n c : Nat} (hs : P.underlying t = some (.slice e)) (H : St N D w0 F G0 G L T a w) (hw : Region.wanted ⟨some d, .call { callee := .builtin .cap, args := #[x], argTypes := #[t] }, ty, pos, aft, g⟩ (yielded ops a.tmps) = true) (hx : ev T x = some (.slice A n c)) (hd : Nat.blt d N = true)
    (k : ∀ a', St N D w0 F G0 G L ((d, .int .i64 c) :: T) a' w → WL r P ops Q rest a' w) : WL r P ops Q (⟨some d, .call { callee := .builtin .cap, args := #[x], argTypes := #[t] }, ty, pos, aft, g⟩ :: rest) a w :=
  wl_value (v := .int .i64 c) (w' := w) hw rfl (by simp [execOp, resolve, invoke, builtin, Builtin.cap_, H.ev hx, Sem.run_bind, run_und hs, goInt]) (k _ (H.put hd _ H.hp))
/-- The head of a slice. -/
theorem s_sliceTo {t e : TypeId} {sz bytes : Nat} {zero : List Value} {agg : Bool} (hs : P.underlying t = some (.slice e)) (ht : Ty P e sz bytes zero agg) {x z : Operand} {A : Option Addr} {n c : Nat} (hi : Nat) {q : Int} (H : St N D w0 F G0 G L T a w)
    (hw : Region.wanted ⟨some d, .slice t x none (some z) none, ty, pos, aft, g⟩ (yielded ops a.tmps) = true) (hx : ev T x = some (.slice A n c)) (hz : ev T z = some (.int .i64 q)) (hq : q = (hi : Int)) (h2 : hi ≤ c) (hd : Nat.blt d N = true)
    (k : ∀ a', St N D w0 F G0 G L ((d, .slice A hi c) :: T) a' w → WL r P ops Q rest a' w) : WL r P ops Q (⟨some d, .slice t x none (some z) none, ty, pos, aft, g⟩ :: rest) a w := by
  subst hq
  refine wl_value (v := .slice A hi c) (w' := w) hw rfl ?_ (k _ (H.put hd _ H.hp))
  simp [execOp, H.ev hx, H.ev hz, Instr.sliceAt, Instr.slice, Instr.sliceBounds, Instr.sliceBound, Sem.run_bind, run_und hs, ht.run_size, asIntOf, h2]
  intro _
  cases A with
  | none => rfl
  | some p => simp [Addr.add]
theorem run_append_zeros {w : World} (t u ty e : TypeId) (i : TypeInfo) (z : Value) (hs : P.underlying t = some (.slice e)) (hu : P.underlying u = some (.int .i64)) (hi : P.info? e = some i) (hz : i.zero = some z) (n : Nat) (hn : 0 < n) (hsz : 0 < i.size) (h63 : (n : Int) ≤ 9223372036854775807) (h48 : n * i.bytes ≤ 281474976710656) :
    (Builtin.append_ #[t, u] ty #[.slice none 0 0, .int .i64 n]).run P w = .ok (.slice (some ⟨w.heap.size, 0, none⟩) n (grownCap w n 0 e)) (w.drew.alloc (.cells (Builtin.zeroCells z.cells n ++ Builtin.zeroCells z.cells (grownCap w n 0 e - n)) e)) := by
  have w1 := i64_wrap (z := (n : Int)) (by omega) (by omega)
  have n1 : ¬ ((n : Int) < 0) := by omega
  have n2 : ¬ (281474976710656 < (n : Int) * i.bytes) := by rw [← Int.natCast_mul]; omega
  have n3 : ¬ n = 0 := by omega
  have n4 : ¬ i.size = 0 := by omega
  have n5 : ¬ (9223372036854775807 < (n : Int)) := by omega
  have n6 : Builtin.nextslicecap n 0 = n := by simp [Builtin.nextslicecap, hn]
  have n7 : ¬ (281474976710656 < n * i.bytes) := by omega
  simp [Builtin.append_, run_underlying hs, run_underlying hu, sizeOf, typeInfo, zeroValue, hi, hz, asInt, asIntOf, w1, n1, n2, n3, n4, n5, n6, n7, Question.forced, newRow, grownCap, Builtin.firstCells]
  intro h
  rcases Nat.mul_eq_zero.1 h with h | h <;> omega
/-- An append of zeros to nothing (slices.Grow). -/
theorem s_appendZ {t u e : TypeId} {sz bytes : Nat} {zero : List Value} {agg : Bool} (hs : P.underlying t = some (.slice e)) (hu : P.underlying u = some (.int .i64)) (ht : Ty P e sz bytes zero agg) (hzl : Nat.beq zero.length sz = true) (hsz : Nat.blt 0 sz = true) {x y : Operand} {n : Nat} (H : St N D w0 F G0 G L T a w)
    (hw : Region.wanted ⟨some d, .call { callee := .builtin .append, args := #[x, y], argTypes := #[t, u] }, ty, pos, aft, g⟩ (yielded ops a.tmps) = true) (hx : ev T x = some (.slice none 0 0)) (hy : ev T y = some (.int .i64 (n : Int))) (hn : 0 < n) (h63 : n ≤ maxLen) (h48 : n * bytes ≤ 281474976710656) (hd : Nat.blt d N = true)
    (k : ∀ b cap cur a' w', w0.heap.size ≤ b → n ≤ cap → cap ≤ maxLen → cur.size = cap * sz → St N D w0 F G0 G ((b, .cells cur e (0, 0)) :: L) ((d, .slice (some ⟨b, 0, none⟩) n cap) :: T) a' w' → WL r P ops Q rest a' w') :
    WL r P ops Q (⟨some d, .call { callee := .builtin .append, args := #[x, y], argTypes := #[t, u] }, ty, pos, aft, g⟩ :: rest) a w := by
  obtain ⟨i, z, hi, hi1, hi2, hi3, hi4⟩ := ht.parts
  have hsz0 : 0 < sz := Eq.mp Nat.blt_eq hsz
  have hzc : z.cells.size = sz := by rw [hi4]; simpa using Nat.eq_of_beq_eq_true hzl
  have h63' : (n : Int) ≤ 9223372036854775807 := by have hml : maxLen = 9223372036854775807 := rfl; omega
  have hr := run_append_zeros (P := P) (w := w) t u ty e i z hs hu hi hi3 n hn (by omega) h63' (by rw [hi2]; exact h48)
  have hge := grownCap_ge w n 0 e
  refine wl_value (v := .slice (some ⟨w.heap.size, 0, none⟩) n (grownCap w n 0 e)) (w' := w.drew.alloc (.cells (Builtin.zeroCells z.cells n ++ Builtin.zeroCells z.cells (grownCap w n 0 e - n)) e)) hw rfl ?_ (k _ _ _ _ _ H.hp.size hge (grownCap_le_maxLen w n 0 e h63) ?_ (H.put hd _ (H.hp.drew.alloc _)))
  · simp only [execOp, resolve, invoke, builtin, H.ev hx, H.ev hy, Sem.run_bind, List.map_toArray, List.map_cons, List.map_nil, Sem.run_pure, Result.andThen_ok, hr]
  · simp only [Array.size_append, size_zeroCells, hzc]
    rw [← Nat.add_mul]; congr 1; omega
end
end Go.Proofs.YtpmcdlhhfbobfaaDoor
