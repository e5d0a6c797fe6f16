/-
  The step lemmas, second part: built values, arithmetic, calls, append; rules for code; how a function is entered and left.
-/
import Derived.Test.YtpmcdlhhfbobfaaDoorOp
import Derived.Maps.AppendAt
import Derived.IntWalk
namespace Go.Proofs.YtpmcdlhhfbobfaaDoor
open Go.RowKit
section steps
variable {N : Nat} {D : List Deferred} {w0 : World} {F : Nat → Prop} {G0 G : GH} {L : List (Nat × Obj)} {T : List (Nat × Value)}
variable {r : Option Nat} {P : Program} {ops : Array Oper} {Q : Exit → Act → World → Prop} {rest : List Oper} {a : Act} {w : World}
variable {d : Nat} {ty : TypeId} {pos : String} {aft : Array Edge} {g : Option (Nat × Bool)}

/-! ### built values -/
theorem Srt.parts {t : TypeId} {pl : List (Nat × Nat)} {zero : List Value} (h : Srt P t pl zero) : ∃ fs i z, P.underlying t = some (.struct fs) ∧ P.info? t = some i ∧ i.zero = some z ∧ z.cells = zero.toArray ∧
    fs.toList.map (fun f => (f.offset, (P.info? f.type).map (·.size))) = pl.map fun q => (q.1, some q.2) := by
  obtain ⟨h, hz⟩ := h
  obtain ⟨i, hi, hx⟩ := Option.map_eq_some_iff.1 hz
  obtain ⟨z, hz1, hz2⟩ := Option.map_eq_some_iff.1 hx
  split at h
  · rename_i fs hs
    exact ⟨fs, i, z, hs, hi, hz1, by rw [← hz2], by simpa using h⟩
  · cases h
theorem run_mapM_places (w : World) : ∀ (fs : List Field) (pl : List (Nat × Nat)), fs.map (fun f => (f.offset, (P.info? f.type).map (·.size))) = pl.map (fun q => (q.1, some q.2)) →
    (fs.mapM (fun f => (do pure (f.offset, ← sizeOf f.type) : Sem (Nat × Nat)))).run P w = .ok pl w
  | [], [], _ => by simp [Sem.run]
  | [], q :: pl, h => by simp at h
  | f :: fs, [], h => by simp at h
  | f :: fs, q :: pl, h => by
    simp only [List.map_cons, List.cons.injEq, Prod.mk.injEq] at h
    obtain ⟨⟨h1, h2⟩, h3⟩ := h
    obtain ⟨i, hi, hs⟩ := Option.map_eq_some_iff.1 h2
    have ih := run_mapM_places w fs pl h3
    have hsz : (sizeOf f.type).run P w = .ok q.2 w := by simp only [sizeOf, Sem.run_bind, run_info hi, Result.andThen_ok, Sem.run_pure, hs]
    simp only [List.mapM_cons, Sem.run_bind, hsz, Result.andThen_ok, Sem.run_pure, ih, h1]
theorem run_build {t : TypeId} {pl : List (Nat × Nat)} {zero : List Value} (h : Srt P t pl zero) {parts : Array (Nat × Value)} {cs : List Value}
    (hf : fillL pl zero (parts.toList.map fun x => (x.1, x.2.cells.toList)) = some cs) (w : World) : (Instr.build t parts).run P w = .ok (.agg cs.toArray) w := by
  obtain ⟨fs, i, z, h1, h2, h3, h4, h5⟩ := h.parts
  have hm := run_mapM_places (P := P) w fs.toList pl h5
  have hm' : (fs.mapM (fun f => (do pure (f.offset, ← sizeOf f.type) : Sem (Nat × Nat)))).run P w = .ok pl.toArray w := by
    rw [Array.mapM_eq_mapM_toList]
    simp only [map_eq_pure_bind, Sem.run_bind, hm, Result.andThen_ok, Sem.run_pure]
  have hfill := fill_eq (fun i => pl.toArray[i]?) pl (fun i q hq => by simpa using hq) parts.toList _ zero cs rfl hf
  simp only [Instr.build, zeroValue, Sem.run_bind, run_info h2, h3, Result.andThen_ok, Sem.run_pure, h4, run_und h1, hm', hfill]
/-- The parts of a built value, out of the slots. -/
def pts (T : List (Nat × Value)) : List (Nat × Operand) → Option (List (Nat × Value))
  | [] => some []
  | (i, x) :: q => match ev T x, pts T q with | some v, some vs => some ((i, v) :: vs) | _, _ => none
theorem St.pts (H : St N D w0 F G0 G L T a w) : ∀ {xs : List (Nat × Operand)} {vs : List (Nat × Value)}, Proofs.YtpmcdlhhfbobfaaDoor.pts T xs = some vs → xs.map (fun x => (x.1, a.eval x.2)) = vs
  | [], vs, hx => by simp [Proofs.YtpmcdlhhfbobfaaDoor.pts] at hx; subst hx; rfl
  | (i, x) :: xs, vs, hx => by
    unfold Proofs.YtpmcdlhhfbobfaaDoor.pts at hx
    split at hx
    · rename_i v vs' h1 h2
      simp only [Option.some.injEq] at hx
      subst hx
      rw [List.map_cons, H.ev h1, H.pts h2]
    · cases hx
theorem s_build {t : TypeId} {pl : List (Nat × Nat)} {zero : List Value} (ht : Srt P t pl zero) {xs : List (Nat × Operand)} {vs : List (Nat × Value)} {vs' : List (Nat × List Value)} (cs : List Value) (H : St N D w0 F G0 G L T a w) (hw : Region.wanted ⟨some d, .build t xs.toArray, ty, pos, aft, g⟩ (yielded ops a.tmps) = true)
    (hx : pts T xs = some vs) (hv : vs.map (fun x => (x.1, x.2.cells.toList)) = vs') (hf : fillL pl zero vs' = some cs) (hd : Nat.blt d N = true)
    (k : ∀ a', St N D w0 F G0 G L ((d, .agg cs.toArray) :: T) a' w → WL r P ops Q rest a' w) : WL r P ops Q (⟨some d, .build t xs.toArray, ty, pos, aft, g⟩ :: rest) a w := by
  refine wl_value (v := .agg cs.toArray) (w' := w) hw rfl ?_ (k _ (H.put hd _ H.hp))
  have h1 := run_build ht (parts := (vs.toArray)) (cs := cs) (by simpa [hv] using hf) w
  simp only [execOp, List.map_toArray, H.pts hx, Sem.run_bind, h1, Result.andThen_ok, Sem.run_pure]
theorem s_buildSlice {t e : TypeId} {sz bytes : Nat} {zero : List Value} {agg : Bool} (hs : P.underlying t = some (.slice e)) (ht : Ty P e sz bytes zero agg) {n : Nat} {xs : List (Nat × Operand)} {vs : List (Nat × Value)} {vs' : List (Nat × List Value)} (z : List Value) (cs : List Value) (H : St N D w0 F G0 G L T a w) (hw : Region.wanted ⟨some d, .buildSlice t n xs.toArray, ty, pos, aft, g⟩ (yielded ops a.tmps) = true)
    (hx : pts T xs = some vs) (hv : vs.map (fun x => (x.1, x.2.cells.toList)) = vs') (hn : Nat.ble (n * sz) 1000 = true) (hn0 : Nat.beq (n * sz) 0 = false) (hz : (List.range (n * sz)).map (fun i => zero[i % zero.length]!) = z) (hpl : ∀ i q, ((List.range n).map fun i => (i * sz, sz))[i]? = some q → (some (i * sz, sz) : Option (Nat × Nat)) = some q)
    (hf : fillL ((List.range n).map fun i => (i * sz, sz)) z vs' = some cs) (hd : Nat.blt d N = true)
    (k : ∀ b a' w', w0.heap.size ≤ b → St N D w0 F G0 G ((b, .cells cs.toArray e (0, 0)) :: L) ((d, .slice (some ⟨b, 0, none⟩) n n) :: T) a' w' → WL r P ops Q rest a' w') : WL r P ops Q (⟨some d, .buildSlice t n xs.toArray, ty, pos, aft, g⟩ :: rest) a w := by
  refine wl_value (v := .slice (some ⟨w.heap.size, 0, none⟩) n n) (w' := w.alloc (.cells cs.toArray e (0, 0))) hw rfl ?_ (k _ _ _ H.hp.size (H.put hd _ (H.hp.alloc _)))
  obtain ⟨z0, hz0, hzc⟩ := ht.run_zero w
  have h16 : ¬ n * sz > 2 ^ 24 := by have := Nat.le_of_ble_eq_true hn; simp; omega
  have h0 : ¬ n * sz = 0 := by intro e; rw [e] at hn0; cases hn0
  have hfill := fill_eq (fun i => some (i * sz, sz)) _ hpl vs vs' z cs hv hf
  have hz' : (Array.range (n * sz)).map (fun x => zero.toArray[x % zero.toArray.size]!) = z.toArray := by
    rw [← hz]; apply Array.ext'; simp
  simp only [execOp, List.map_toArray, H.pts hx, Instr.buildSlice, Sem.run_bind, run_und hs, Result.andThen_ok, ht.run_size, if_neg h16, if_neg h0, hz0, hzc, Sem.run_pure, hz', hfill, newRow, newObj, Sem.run]
  rfl

/-! ### arithmetic -/
theorem i64_wrap {z : Int} (h1 : -9223372036854775808 ≤ z) (h2 : z < 9223372036854775808) : IntKind.i64.wrap z = z := by
  unfold IntKind.wrap
  have e : (2 : Int) ^ 64 = 18446744073709551616 := by decide
  have e' : (2 : Int) ^ (64 - 1) = 9223372036854775808 := by decide
  simp only [IntKind.bits, IntKind.signed, Bool.true_and, e, e', decide_eq_true_eq]
  split <;> omega
theorem s_add {x y : Operand} {t yt : TypeId} {p q : Int} (z : Int) (H : St N D w0 F G0 G L T a w) (hw : Region.wanted ⟨some d, .binOp .add t x y yt, ty, pos, aft, g⟩ (yielded ops a.tmps) = true) (hx : ev T x = some (.int .i64 p)) (hy : ev T y = some (.int .i64 q)) (hz : p + q = z) (h1 : -9223372036854775808 ≤ z) (h2 : z < 9223372036854775808) (hd : Nat.blt d N = true)
    (k : ∀ a', St N D w0 F G0 G L ((d, .int .i64 z) :: T) a' w → WL r P ops Q rest a' w) : WL r P ops Q (⟨some d, .binOp .add t x y yt, ty, pos, aft, g⟩ :: rest) a w :=
  wl_value (v := .int .i64 z) (w' := w) hw rfl (by simp [execOp, eqGuard, binOp, Op.intArith, H.ev hx, H.ev hy, Sem.run_bind, hz, i64_wrap h1 h2]) (k _ (H.put hd _ H.hp))
theorem s_sub {x y : Operand} {t yt : TypeId} {p q : Int} (z : Int) (H : St N D w0 F G0 G L T a w) (hw : Region.wanted ⟨some d, .binOp .sub t x y yt, ty, pos, aft, g⟩ (yielded ops a.tmps) = true) (hx : ev T x = some (.int .i64 p)) (hy : ev T y = some (.int .i64 q)) (hz : p - q = z) (h1 : -9223372036854775808 ≤ z) (h2 : z < 9223372036854775808) (hd : Nat.blt d N = true)
    (k : ∀ a', St N D w0 F G0 G L ((d, .int .i64 z) :: T) a' w → WL r P ops Q rest a' w) : WL r P ops Q (⟨some d, .binOp .sub t x y yt, ty, pos, aft, g⟩ :: rest) a w :=
  wl_value (v := .int .i64 z) (w' := w) hw rfl (by simp [execOp, eqGuard, binOp, Op.intArith, H.ev hx, H.ev hy, Sem.run_bind, hz, i64_wrap h1 h2]) (k _ (H.put hd _ H.hp))
theorem s_mul {x y : Operand} {t yt : TypeId} {p q : Int} (z : Int) (H : St N D w0 F G0 G L T a w) (hw : Region.wanted ⟨some d, .binOp .mul t x y yt, ty, pos, aft, g⟩ (yielded ops a.tmps) = true) (hx : ev T x = some (.int .i64 p)) (hy : ev T y = some (.int .i64 q)) (hz : p * q = z) (h1 : -9223372036854775808 ≤ z) (h2 : z < 9223372036854775808) (hd : Nat.blt d N = true)
    (k : ∀ a', St N D w0 F G0 G L ((d, .int .i64 z) :: T) a' w → WL r P ops Q rest a' w) : WL r P ops Q (⟨some d, .binOp .mul t x y yt, ty, pos, aft, g⟩ :: rest) a w :=
  wl_value (v := .int .i64 z) (w' := w) hw rfl (by simp [execOp, eqGuard, binOp, Op.intArith, H.ev hx, H.ev hy, Sem.run_bind, hz, i64_wrap h1 h2]) (k _ (H.put hd _ H.hp))
def cmpI : BinOp → Int → Int → Option Bool
  | .eql, x, y => some (decide (x = y))
  | .neq, x, y => some (decide (¬ x = y))
  | .lss, x, y => some (decide (x < y))
  | .leq, x, y => some (decide (x ≤ y))
  | .gtr, x, y => some (decide (y < x))
  | .geq, x, y => some (decide (y ≤ x))
  | _, _, _ => none
theorem run_cmpI {op : BinOp} {kd : IntKind} {x y : Int} {b : Bool} (h : cmpI op x y = some b) (t : TypeId) (X Y : Operand) (w : World) : (do eqGuard op t X Y (.int kd x) (.int kd y); binOp op t (.int kd x) (.int kd y) : Sem Value).run P w = .ok (.bool b) w := by
  cases op <;> simp only [cmpI, Option.some.injEq, reduceCtorEq] at h <;> subst h <;> simp [eqGuard, binOp, Op.intCmp, Sem.run_bind]
  · rfl
  · rfl
theorem s_cmp {op : BinOp} {x y : Operand} {t yt : TypeId} {kd : IntKind} {p q : Int} {b : Bool} (H : St N D w0 F G0 G L T a w) (hw : Region.wanted ⟨some d, .binOp op t x y yt, ty, pos, aft, g⟩ (yielded ops a.tmps) = true) (hx : ev T x = some (.int kd p)) (hy : ev T y = some (.int kd q)) (hb : cmpI op p q = some b) (hd : Nat.blt d N = true)
    (k : ∀ a', St N D w0 F G0 G L ((d, .bool b) :: T) a' w → WL r P ops Q rest a' w) : WL r P ops Q (⟨some d, .binOp op t x y yt, ty, pos, aft, g⟩ :: rest) a w := by
  refine wl_value (v := .bool b) (w' := w) hw rfl ?_ (k _ (H.put hd _ H.hp))
  have h1 := run_cmpI (P := P) (kd := kd) hb t x y w
  simp only [execOp, H.ev hx, H.ev hy]
  rw [Sem.run_bind, h1]
  rfl
theorem s_not {x : Operand} {t : TypeId} {b : Bool} (H : St N D w0 F G0 G L T a w) (hw : Region.wanted ⟨some d, .unOp .not t x, ty, pos, aft, g⟩ (yielded ops a.tmps) = true) (hx : ev T x = some (.bool b)) (hd : Nat.blt d N = true)
    (k : ∀ a', St N D w0 F G0 G L ((d, .bool (!b)) :: T) a' w → WL r P ops Q rest a' w) : WL r P ops Q (⟨some d, .unOp .not t x, ty, pos, aft, g⟩ :: rest) a w :=
  wl_value (v := .bool (!b)) (w' := w) hw rfl (by simp [execOp, Op.unary, H.ev hx, Sem.run_bind]) (k _ (H.put hd _ H.hp))
theorem s_neg {x : Operand} {t : TypeId} {p : Int} (z : Int) (H : St N D w0 F G0 G L T a w) (hw : Region.wanted ⟨some d, .unOp .neg t x, ty, pos, aft, g⟩ (yielded ops a.tmps) = true) (hx : ev T x = some (.int .i64 p)) (hz : 0 - p = z) (h1 : -9223372036854775808 ≤ z) (h2 : z < 9223372036854775808) (hd : Nat.blt d N = true)
    (k : ∀ a', St N D w0 F G0 G L ((d, .int .i64 z) :: T) a' w → WL r P ops Q rest a' w) : WL r P ops Q (⟨some d, .unOp .neg t x, ty, pos, aft, g⟩ :: rest) a w :=
  wl_value (v := .int .i64 z) (w' := w) hw rfl (by simp only [execOp, Op.unary, Op.intArith, H.ev hx, Sem.run_bind, Sem.run_pure, Result.andThen_ok, hz, i64_wrap h1 h2]) (k _ (H.put hd _ H.hp))

/-! ### bits, conversions, bytes of strings -/
def bitI (op : BinOp) (k : IntKind) (x y : Int) : Int :=
  let a := BitVec.ofInt k.bits x
  let b := BitVec.ofInt k.bits y
  k.wrap (match op with | .and => (a &&& b).toNat | .or => (a ||| b).toNat | .xor => (a ^^^ b).toNat | _ => (a &&& ~~~b).toNat)
theorem s_bits {op : BinOp} {x y : Operand} {t yt : TypeId} {kd : IntKind} {p q : Int} (hop : (match op with | .and | .or | .xor | .andNot => true | _ => false) = true) (H : St N D w0 F G0 G L T a w) (hw : Region.wanted ⟨some d, .binOp op t x y yt, ty, pos, aft, g⟩ (yielded ops a.tmps) = true) (hx : ev T x = some (.int kd p)) (hy : ev T y = some (.int kd q)) (hd : Nat.blt d N = true)
    (k : ∀ a', St N D w0 F G0 G L ((d, .int kd (bitI op kd p q)) :: T) a' w → WL r P ops Q rest a' w) : WL r P ops Q (⟨some d, .binOp op t x y yt, ty, pos, aft, g⟩ :: rest) a w := by
  refine wl_value (v := .int kd (bitI op kd p q)) (w' := w) hw rfl ?_ (k _ (H.put hd _ H.hp))
  cases op <;> simp only [Bool.false_eq_true] at hop <;> simp [execOp, eqGuard, binOp, Op.intBits, H.ev hx, H.ev hy, bitI]
theorem s_shl {x y : Operand} {t yt : TypeId} {kd ky : IntKind} {p q : Int} (n : Nat) (H : St N D w0 F G0 G L T a w) (hw : Region.wanted ⟨some d, .binOp .shl t x y yt, ty, pos, aft, g⟩ (yielded ops a.tmps) = true) (hx : ev T x = some (.int kd p)) (hy : ev T y = some (.int ky q)) (hq : q = (n : Int)) (hn : n ≤ kd.bits) (hd : Nat.blt d N = true)
    (k : ∀ a', St N D w0 F G0 G L ((d, .int kd (kd.wrap (p * 2 ^ n))) :: T) a' w → WL r P ops Q rest a' w) : WL r P ops Q (⟨some d, .binOp .shl t x y yt, ty, pos, aft, g⟩ :: rest) a w := by
  subst hq
  refine wl_value (v := .int kd (kd.wrap (p * 2 ^ n))) (w' := w) hw rfl ?_ (k _ (H.put hd _ H.hp))
  have h0 : ¬ ((n : Int) < 0) := by omega
  have h1 : min n kd.bits = n := by omega
  simp [execOp, eqGuard, binOp, Op.shift, H.ev hx, H.ev hy, h0, h1]
theorem s_shr {x y : Operand} {t yt : TypeId} {kd ky : IntKind} {p q : Int} (n : Nat) (H : St N D w0 F G0 G L T a w) (hw : Region.wanted ⟨some d, .binOp .shr t x y yt, ty, pos, aft, g⟩ (yielded ops a.tmps) = true) (hx : ev T x = some (.int kd p)) (hy : ev T y = some (.int ky q)) (hq : q = (n : Int)) (hn : n ≤ kd.bits) (hd : Nat.blt d N = true)
    (k : ∀ a', St N D w0 F G0 G L ((d, .int kd (p.fdiv (2 ^ n))) :: T) a' w → WL r P ops Q rest a' w) : WL r P ops Q (⟨some d, .binOp .shr t x y yt, ty, pos, aft, g⟩ :: rest) a w := by
  subst hq
  refine wl_value (v := .int kd (p.fdiv (2 ^ n))) (w' := w) hw rfl ?_ (k _ (H.put hd _ H.hp))
  have h0 : ¬ ((n : Int) < 0) := by omega
  have h1 : min n kd.bits = n := by omega
  simp [execOp, eqGuard, binOp, Op.shift, H.ev hx, H.ev hy, h0, h1]
theorem s_conv {x : Operand} {t u : TypeId} {kd ks : IntKind} {p : Int} {su : TypeDesc} (z : Int) (hu : P.underlying u = some (.int kd)) (ht : P.underlying t = some su) (H : St N D w0 F G0 G L T a w) (hw : Region.wanted ⟨some d, .convert t u x, ty, pos, aft, g⟩ (yielded ops a.tmps) = true) (hx : ev T x = some (.int ks p)) (hz : kd.wrap p = z) (hd : Nat.blt d N = true)
    (k : ∀ a', St N D w0 F G0 G L ((d, .int kd z) :: T) a' w → WL r P ops Q rest a' w) : WL r P ops Q (⟨some d, .convert t u x, ty, pos, aft, g⟩ :: rest) a w := by
  refine wl_value (v := .int kd z) (w' := w) hw rfl ?_ (k _ (H.put hd _ H.hp))
  simp [execOp, convert, run_und hu, run_und ht, H.ev hx, Sem.run_bind, Conv.intToInt, hz]
theorem s_indexs {x y : Operand} {t : TypeId} {s : ByteArray} {kd : IntKind} {z : Int} (i : Nat) (ht : P.underlying t = some .string) (H : St N D w0 F G0 G L T a w) (hw : Region.wanted ⟨some d, .index t x y, ty, pos, aft, g⟩ (yielded ops a.tmps) = true) (hx : ev T x = some (.string s)) (hy : ev T y = some (.int kd z)) (hz : z = (i : Int)) (hi : i < s.size) (hd : Nat.blt d N = true)
    (k : ∀ a', St N D w0 F G0 G L ((d, .int .u8 (s[i].toNat : Int)) :: T) a' w → WL r P ops Q rest a' w) : WL r P ops Q (⟨some d, .index t x y, ty, pos, aft, g⟩ :: rest) a w := by
  subst hz
  refine wl_value (v := .int .u8 (s[i].toNat : Int)) (w' := w) hw rfl ?_ (k _ (H.put hd _ H.hp))
  simp [execOp, Instr.index, asIntOf, run_und ht, H.ev hx, H.ev hy, Sem.run_bind, hi]

/-! ### builtins -/
theorem s_len {x : Operand} {t e : TypeId} {A : Option Addr} {n c : Nat} (hs : P.underlying t = some (.slice e)) (H : St N D w0 F G0 G L T a w) (hw : Region.wanted ⟨some d, .call { callee := .builtin .len, args := #[x], argTypes := #[t] }, ty, pos, aft, g⟩ (yielded ops a.tmps) = true) (hx : ev T x = some (.slice A n c)) (hd : Nat.blt d N = true)
    (k : ∀ a', St N D w0 F G0 G L ((d, .int .i64 n) :: T) a' w → WL r P ops Q rest a' w) : WL r P ops Q (⟨some d, .call { callee := .builtin .len, args := #[x], argTypes := #[t] }, ty, pos, aft, g⟩ :: rest) a w :=
  wl_value (v := .int .i64 n) (w' := w) hw rfl (by simp [execOp, resolve, invoke, builtin, Builtin.len_, H.ev hx, Sem.run_bind, run_und hs, goInt]) (k _ (H.put hd _ H.hp))
theorem s_lens {x : Operand} {t : TypeId} {s : ByteArray} (hs : P.underlying t = some .string) (H : St N D w0 F G0 G L T a w) (hw : Region.wanted ⟨some d, .call { callee := .builtin .len, args := #[x], argTypes := #[t] }, ty, pos, aft, g⟩ (yielded ops a.tmps) = true) (hx : ev T x = some (.string s)) (hd : Nat.blt d N = true)
    (k : ∀ a', St N D w0 F G0 G L ((d, .int .i64 s.size) :: T) a' w → WL r P ops Q rest a' w) : WL r P ops Q (⟨some d, .call { callee := .builtin .len, args := #[x], argTypes := #[t] }, ty, pos, aft, g⟩ :: rest) a w :=
  wl_value (v := .int .i64 s.size) (w' := w) hw rfl (by simp [execOp, resolve, invoke, builtin, Builtin.len_, H.ev hx, Sem.run_bind, run_und hs, goInt]) (k _ (H.put hd _ H.hp))
theorem s_max {x y : Operand} {t t' : TypeId} {kd : IntKind} {p q : Int} (H : St N D w0 F G0 G L T a w) (hw : Region.wanted ⟨some d, .call { callee := .builtin .max, args := #[x, y], argTypes := #[t, t'] }, ty, pos, aft, g⟩ (yielded ops a.tmps) = true) (hx : ev T x = some (.int kd p)) (hy : ev T y = some (.int kd q)) (hd : Nat.blt d N = true)
    (k : ∀ a', St N D w0 F G0 G L ((d, .int kd (max p q)) :: T) a' w → WL r P ops Q rest a' w) : WL r P ops Q (⟨some d, .call { callee := .builtin .max, args := #[x, y], argTypes := #[t, t'] }, ty, pos, aft, g⟩ :: rest) a w := by
  refine wl_value (v := .int kd (max p q)) (w' := w) hw rfl ?_ (k _ (H.put hd _ H.hp))
  have e : (if q > p then q else p) = max p q := by omega
  simp [execOp, resolve, invoke, builtin, Builtin.max_, Builtin.max2, H.ev hx, H.ev hy, Sem.run_bind, e]
theorem s_min {x y : Operand} {t t' : TypeId} {kd : IntKind} {p q : Int} (H : St N D w0 F G0 G L T a w) (hw : Region.wanted ⟨some d, .call { callee := .builtin .min, args := #[x, y], argTypes := #[t, t'] }, ty, pos, aft, g⟩ (yielded ops a.tmps) = true) (hx : ev T x = some (.int kd p)) (hy : ev T y = some (.int kd q)) (hd : Nat.blt d N = true)
    (k : ∀ a', St N D w0 F G0 G L ((d, .int kd (min p q)) :: T) a' w → WL r P ops Q rest a' w) : WL r P ops Q (⟨some d, .call { callee := .builtin .min, args := #[x, y], argTypes := #[t, t'] }, ty, pos, aft, g⟩ :: rest) a w := by
  refine wl_value (v := .int kd (min p q)) (w' := w) hw rfl ?_ (k _ (H.put hd _ H.hp))
  have e : (if q < p then q else p) = min p q := by omega
  simp [execOp, resolve, invoke, builtin, Builtin.min_, Builtin.min2, H.ev hx, H.ev hy, Sem.run_bind, e]

/-! ### calls -/
/-- How a call ends that turns nothing that was there: a value, more that is read alone, and what is said of them. -/
def Ret (w : World) (G : GH) (R : Value → GH → Prop) : Ending → World → Prop := fun e w' => ∃ v G', e = .returned v ∧ Below w.heap.size w w' ∧ Ext w.heap.size G G' w' ∧ R v G'
/-- What is read alone lies in memory. -/
def Hold (G : GH) (w : World) : Prop := ∀ k o, G k = some o → w.heap[k]? = some o
theorem Hp.hold (h : Hp w0 F G0 G L w) : Hold G w := h.ro
theorem s_call {f : FuncId} {xs : List Operand} {vs : List Value} {ts : Array TypeId} {R : Value → GH → Prop} (en : ∀ args w, (callFunc f args).run P w = .ok (.enter f args) w) (H : St N D w0 F G0 G L T a w) (hw : Region.wanted ⟨some d, .call { callee := .value (.func f), args := xs.toArray, argTypes := ts }, ty, pos, aft, g⟩ (yielded ops a.tmps) = true)
    (hx : evs T xs = some vs) (hc : Calls P f vs.toArray w (Ret w G R)) (hd : Nat.blt d N = true)
    (k : ∀ v G' a' w', R v G' → (∀ k o, G k = some o → G' k = some o) → St N D w0 F G0 G' L ((d, v) :: T) a' w' → WL r P ops Q rest a' w') : WL r P ops Q (⟨some d, .call { callee := .value (.func f), args := xs.toArray, argTypes := ts }, ty, pos, aft, g⟩ :: rest) a w := by
  refine wl_after (nx := .ok (.enter f vs.toArray) w) (R := Ret w G R) hw rfl ?_ hc ?_
  · have h1 := H.evs hx
    simp [execOp, resolve, Act.eval, Deferred.ofValue, invoke, Sem.run_bind, h1, en]
  · rintro e w' ⟨v, G', rfl, hb, hX, hR⟩
    exact ⟨v, rfl, k v G' _ w' hR hX.1 (H.put hd v (H.hp.belowG hb hX))⟩

/-! ## Rules for code -/
theorem c_seq {x y : Code} (h : ∀ K : Act → World → Prop, (∀ a w, WP r P y Q a w → K a w) → WP r P x (Exit.then K Q) a w) : WP r P (.seq x y) Q a w := wpIn_seq_k h
theorem c_region {id : Nat} {l : List Oper} (h : WL r P l.toArray Q l a w) : WP r P (.region id l.toArray false) Q a w := wpIn_region_lit h
theorem c_skip (h : Q .normal a w) : WP r P .skip Q a w := wpIn_skip h
theorem c_ret (h : Q .ret a w) : WP r P .ret Q a w := wpIn_ret h
theorem c_exit {id : Nat} (h : Q (.exit id) a w) : WP r P (.exit id) Q a w := wpIn_exit h
theorem c_block {id : Nat} {c : Code} (h : WP r P c (Exit.inBlock id Q) a w) : WP r P (.block id c) Q a w := wpIn_block h
theorem c_cond {c : Operand} {x y : Code} {b : Bool} (H : St N D w0 F G0 G L T a w) (hc : ev T c = some (.bool b)) (h1 : b = true → WP r P x Q a w) (h0 : b = false → WP r P y Q a w) : WP r P (.cond c x y) Q a w :=
  wpIn_cond_split (H.ev hc) h1 h0
theorem c_cond_t {c : Operand} {x y : Code} {b : Bool} (H : St N D w0 F G0 G L T a w) (hc : ev T c = some (.bool b)) (hb : b = true) (h1 : WP r P x Q a w) : WP r P (.cond c x y) Q a w :=
  wpIn_cond_true (by rw [H.ev hc, hb]) h1
theorem c_cond_f {c : Operand} {x y : Code} {b : Bool} (H : St N D w0 F G0 G L T a w) (hc : ev T c = some (.bool b)) (hb : b = false) (h1 : WP r P y Q a w) : WP r P (.cond c x y) Q a w :=
  wpIn_cond_false (by rw [H.ev hc, hb]) h1
/-- A loop: an invariant over a ghost state, and a measure of the ghost that each round lowers. -/
theorem c_loop {ι : Type} {c : Code} (I : ι → Act → World → Prop) (m : ι → Nat) (i0 : ι) (h0 : I i0 a w)
    (round : ∀ i a w, I i a w → WP r P c (Exit.then (fun a' w' => ∃ i', I i' a' w' ∧ m i' < m i) Q) a w) : WP r P (.loop c) Q a w := by
  intro b k cs hro hb hr
  have key : ∀ j i a w, m i = j → I i a w →
      ∃ e a' w', Q e a' w' ∧ ArrivesIn (Machine.fenced P (FW r)) P (lone (b.atR a (.code c :: .inLoop c :: k)) cs w) b k cs e a' w' := by
    intro j
    induction j using Nat.strongRecOn with
    | _ j ih =>
      intro i a w hn hI
      obtain ⟨e, a₁, w₁, hq, harr⟩ := round i a w hI b (.inLoop c :: k) cs hro hb hr
      cases e with
      | normal =>
        obtain ⟨i', hI₁, hlt⟩ := hq
        obtain ⟨e₂, a₂, w₂, hq₂, harr₂⟩ := ih (m i') (hn ▸ hlt) i' a₁ w₁ rfl hI₁
        exact ⟨e₂, a₂, w₂, hq₂, .of_steps (StepsIn.trans harr (.one (fenced_calm hb hr rfl) stepR_inLoop)) harr₂⟩
      | exit id => exact ⟨_, a₁, w₁, hq, .pass (x := .inLoop c) rfl (fun _ _ => .inl (by simp)) harr⟩
      | goto l => exact ⟨_, a₁, w₁, hq, .pass (x := .inLoop c) rfl (fun _ _ => .inl (by simp)) harr⟩
      | ret => exact ⟨_, a₁, w₁, hq, .pass (x := .inLoop c) rfl (fun _ _ => .inl (by simp)) harr⟩
      | panic ch => exact ⟨_, a₁, w₁, hq, .pass (x := .inLoop c) rfl (fun _ _ => .inl (by simp)) harr⟩
      | outgrown => exact ⟨_, a₁, w₁, hq, .pass (x := .inLoop c) rfl (fun _ _ => .inl (by simp)) harr⟩
  obtain ⟨e, a', w', hq, harr⟩ := key _ i0 a w rfl h0
  exact ⟨e, a', w', hq, .of_steps (.one (fenced_calm hb hr rfl) stepR_loop) harr⟩

/-- A loop over states: slots, blocks and what is read alone, each a function of the ghost; some slots and blocks stay as they are. -/
theorem c_loopS {ι : Type} {c : Code} {Tc : List (Nat × Value)} {Lc : List (Nat × Obj)} (Tv : ι → List (Nat × Value)) (Lv : ι → List (Nat × Obj)) (Gv : ι → GH) (Pr : ι → Prop) (m : ι → Nat) (i0 : ι)
    (H : St N D w0 F G0 (Gv i0) (Lc ++ Lv i0) (Tv i0 ++ Tc) a w) (hP : Pr i0)
    (round : ∀ i a w, Pr i → St N D w0 F G0 (Gv i) (Lc ++ Lv i) (Tv i ++ Tc) a w →
      WP r P c (Exit.then (fun a' w' => ∃ i', (St N D w0 F G0 (Gv i') (Lc ++ Lv i') (Tv i' ++ Tc) a' w' ∧ Pr i') ∧ m i' < m i) Q) a w) : WP r P (.loop c) Q a w :=
  c_loop (fun i a w => St N D w0 F G0 (Gv i) (Lc ++ Lv i) (Tv i ++ Tc) a w ∧ Pr i) m i0 ⟨H, hP⟩ fun i a w hI => round i a w hI.2 hI.1
theorem loop_end {ι : Type} {Tc : List (Nat × Value)} {Lc : List (Nat × Obj)} {Tv : ι → List (Nat × Value)} {Lv : ι → List (Nat × Obj)} {Gv : ι → GH} {Pr : ι → Prop} {m : ι → Nat} {i : ι} (i' : ι)
    (H : St N D w0 F G0 (Gv i') (Lc ++ Lv i') (Tv i' ++ Tc) a w) (hP : Pr i') (hm : m i' < m i) :
    ∃ i', (St N D w0 F G0 (Gv i') (Lc ++ Lv i') (Tv i' ++ Tc) a w ∧ Pr i') ∧ m i' < m i := ⟨i', ⟨H, hP⟩, hm⟩

/-! ## How a function is entered and left -/
def argT : Nat → List Value → List (Nat × Value)
  | _, [] => []
  | i, v :: vs => (i, v) :: argT (i + 1) vs
/-- A function with a body is entered. -/
theorem enters {f : FuncId} {fn : Func} {c : Code} (hf : P.funcs[f]? = some fn) (hb : fn.body = some c) (hname : (fn.name == "runtime.NumGoroutine") = false) (args : Array Value) (w : World) : (callFunc f args).run P w = .ok (.enter f args) w := by
  have h1 : fn.name ≠ "runtime.NumGoroutine" := by simpa using hname
  simp [callFunc, hf, h1, hb, mark]
/-- The state at a function's door: the arguments lie in the first slots; the call owns L; of what was there nothing but L may turn. -/
theorem enter {f : FuncId} {fn : Func} {c : Code} {vs : List Value} {R : Ending → World → Prop} (hf : P.funcs[f]? = some fn) (hb : fn.body = some c) (hN : fn.ntmps = N) (hle : Nat.ble vs.length N = true)
    (hT : argT 0 vs = T) (hG : Hold G w) (hF : ∀ k, F k → k < w.heap.size) (hL : ∀ p ∈ L, w.heap[p.1]? = some p.2) (hLG : ∀ p ∈ L, G p.1 = none) (hLF : ∀ p ∈ L, ¬ F p.1) (hnd : L.Pairwise fun p q => p.1 ≠ q.1)
    (h : ∀ a, St N [] w F G G L T a w → WP none P c (bodyPostM (FW none) 0 P fn R) a w) : Calls P f vs.toArray w R := by
  refine calls_of_callsIn (r := none) (n := 0) (callsIn_of_wp_marks hf hb trivial (h _ ⟨?_, ?_, rfl, ⟨rfl, rfl, rfl, Nat.le_refl _, hF, fun _ _ => rfl, hG, fun _ _ h => h, fun _ _ h => .inl h, hL, hLG, hLF, hnd⟩⟩) rfl)
  · have := Nat.le_of_ble_eq_true hle
    simp [hN]; omega
  · intro t v ht
    have hlen : t < vs.length ∧ vs[t]? = some v := by
      subst hT
      have key : ∀ (vs : List Value) (s : Nat), lk (argT s vs) t = some v → s ≤ t ∧ vs[t - s]? = some v := by
        intro vs
        induction vs with
        | nil => intro s h; simp [argT, lk] at h
        | cons u vs ih =>
          intro s h
          simp only [argT] at h
          by_cases e : s = t
          · subst e; rw [lk_cons_self] at h; simpa using h
          · rw [lk_cons_ne e] at h
            obtain ⟨h1, h2⟩ := ih (s + 1) h
            refine ⟨by omega, ?_⟩
            have : t - s = (t - (s + 1)) + 1 := by omega
            rw [this]; simpa using h2
      have := key vs 0 ht
      simp only [Nat.zero_le, Nat.sub_zero, true_and] at this
      exact ⟨(List.getElem?_eq_some_iff.1 this).1, this⟩
    rw [Array.getElem?_append_left (by simpa using hlen.1)]
    simpa using hlen.2
/-- What a result variable is read as. -/
def rvRead (tmps : Array Value) : ResultVar → Sem Value
  | .tmp t => pure (tmps.getD t undef)
  | .cell a t => do loadVar t (← asAddr (tmps.getD a undef))
def RV (P : Program) (w : World) (tmps : Array Value) (rv : ResultVar) (v : Value) : Prop := (rvRead tmps rv).run P w = .ok v w
theorem rv_tmp (H : St N D w0 F G0 G L T a w) {t : Nat} {v : Value} (h : lk T t = some v) : RV P w a.tmps (.tmp t) v := by
  have := H.ev (x := .tmp t) h
  simp only [Act.eval] at this
  simp [RV, rvRead, this]
theorem rv_cella {t : TypeId} {sz bytes : Nat} {zero : List Value} (ht : Ty P t sz bytes zero true) (H : St N D w0 F G0 G L T a w) {s b o : Nat} {cs : List Value} (h : lk T s = some (.pointer (some ⟨b, o, none⟩))) (hl : cs.length = sz) (hc : ∀ j v, cs[j]? = some v → w.cell? ⟨b, o + j, none⟩ = some v) :
    RV P w a.tmps (.cell s t) (.agg cs.toArray) := by
  have := H.ev (x := .tmp s) h
  simp only [Act.eval] at this
  have h1 := run_loadCells (P := P) b w cs o 0 #[] (fun j v hj => by simpa using hc j v hj)
  simp only [Array.empty_append, hl] at h1
  simp [RV, rvRead, this, asAddr, loadVar, Sem.run_bind, ht.run_agg, ht.run_size, loadCells, h1]
theorem rv_cell {t : TypeId} {sz bytes : Nat} {zero : List Value} (ht : Ty P t sz bytes zero false) (H : St N D w0 F G0 G L T a w) {s b o : Nat} {v : Value} (h : lk T s = some (.pointer (some ⟨b, o, none⟩))) (hc : w.cell? ⟨b, o, none⟩ = some v) :
    RV P w a.tmps (.cell s t) v := by
  have := H.ev (x := .tmp s) h
  simp only [Act.eval] at this
  simp only [RV, rvRead, this, asAddr, loadVar, Sem.run_bind, ht.run_agg, Result.andThen_ok, Sem.run_pure, Bool.false_eq_true, if_false, run_load1 hc]
inductive RVs (P : Program) (w : World) (tmps : Array Value) : List ResultVar → List Value → Prop
  | nil : RVs P w tmps [] []
  | cons {rv rs v vs} : RV P w tmps rv v → RVs P w tmps rs vs → RVs P w tmps (rv :: rs) (v :: vs)
def outV : List Value → Value
  | [v] => v
  | vs => .tuple vs.toArray
theorem run_results {fn : Func} {rs : List ResultVar} {vs : List Value} {tmps : Array Value} (hr : fn.results = rs.toArray) (h : RVs P w tmps rs vs) : (results fn tmps).run P w = .ok (outV vs) w := by
  have hm : ∀ {rs : List ResultVar} {vs : List Value}, RVs P w tmps rs vs → (rs.mapM (rvRead tmps)).run P w = .ok vs w := by
    intro rs vs h
    induction h with
    | nil => simp
    | cons h1 _ ih =>
      unfold RV at h1
      simp only [List.mapM_cons, Sem.run_bind, h1, Result.andThen_ok, ih, Sem.run_pure]
  have hm' := hm h
  have hres : results fn tmps = (do let vs ← fn.results.mapM (rvRead tmps); pure (if h : vs.size = 1 then vs[0] else .tuple vs)) := rfl
  rw [hres, hr, Array.mapM_eq_mapM_toList]
  simp only [map_eq_pure_bind, Sem.run_bind, hm', Result.andThen_ok, Sem.run_pure]
  match vs with
  | [] => rfl
  | [v] => rfl
  | v :: u :: vs => simp [outV]
theorem leave {fn : Func} {rs : List ResultVar} {vs : List Value} {R : Ending → World → Prop} (v : Value) (H : St N [] w0 F G0 G L T a w) (hr : fn.results = rs.toArray) (h : RVs P w a.tmps rs vs) (hv : outV vs = v) (hR : R (.returned v) w) :
    bodyPostM (FW none) 0 P fn R .ret a w ∧ bodyPostM (FW none) 0 P fn R .normal a w := by
  subst hv
  have h1 : LeavesInM (FW none) 0 P fn a.tmps R a.defers .returning w := by
    rw [H.dfr]
    exact ⟨_, run_results hr h, hR⟩
  exact ⟨h1, h1⟩
theorem leave0 {fn : Func} {R : Ending → World → Prop} (H : St N [] w0 F G0 G L T a w) (hr : fn.results = #[]) (hR : R (.returned (.tuple #[])) w) :
    bodyPostM (FW none) 0 P fn R .ret a w ∧ bodyPostM (FW none) 0 P fn R .normal a w := leave (rs := []) _ H hr .nil rfl hR
theorem leave1 {fn : Func} {rs : List ResultVar} {v : Value} {R : Ending → World → Prop} (H : St N [] w0 F G0 G L T a w) (hr : fn.results = rs.toArray) (h : RVs P w a.tmps rs [v]) (hR : R (.returned v) w) :
    bodyPostM (FW none) 0 P fn R .ret a w ∧ bodyPostM (FW none) 0 P fn R .normal a w := leave _ H hr h rfl hR
theorem leaveT {fn : Func} {rs : List ResultVar} {v u : Value} {vs : List Value} {R : Ending → World → Prop} (H : St N [] w0 F G0 G L T a w) (hr : fn.results = rs.toArray) (h : RVs P w a.tmps rs (v :: u :: vs)) (hR : R (.returned (.tuple (v :: u :: vs).toArray)) w) :
    bodyPostM (FW none) 0 P fn R .ret a w ∧ bodyPostM (FW none) 0 P fn R .normal a w := leave _ H hr h rfl hR
theorem Hp.ret {R : Value → GH → Prop} {v : Value} (h : Hp w0 (fun k => k < w0.heap.size) G0 G L w) (hR : R v G) : Ret w0 G0 R (.returned v) w :=
  ⟨v, G, rfl, ⟨h.os, h.tape, h.output, h.size, h.fr⟩, ⟨h.gm, fun k o hk => (h.gx k o hk).imp id (fun hn => Nat.le_of_not_lt hn), h.ro⟩, hR⟩
end steps
end Go.Proofs.YtpmcdlhhfbobfaaDoor
