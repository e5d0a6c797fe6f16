/-
  Remainders, fields of struct values, ranges over strings, runes.
-/
import Derived.Test.YtpmcdlhhfbobfaaDoorBd
import Derived.Lib.OthersKept
import Derived.Laws.IdiomStrings
import Derived.Laws.Cover4
import Derived.Laws.Slices
import Derived.Laws.Strings2
namespace Go.Proofs.YtpmcdlhhfbobfaaDoor
open Go.RowKit
/-- A field of one cell in a struct. -/
structure VFld (P : Program) (s n off : Nat) : Prop where
  h : (match P.underlying s with | some (.struct fs) => (fs[n]?).bind fun f => ((P.underlying f.type).map (fun | .struct _ => true | .array _ _ => true | _ => false)).map fun g => (f.offset, g) | _ => none) = some (off, false)
theorem VFld.parts {P : Program} {s n off : Nat} (h : VFld P s n off) : ∃ fs fl u, P.underlying s = some (.struct fs) ∧ fs[n]? = some fl ∧ P.underlying fl.type = some u ∧ (match u with | .struct _ => true | .array _ _ => true | _ => false) = false ∧ fl.offset = off := by
  obtain ⟨h⟩ := h
  split at h
  · rename_i fs hs
    obtain ⟨fl, hf, h2⟩ := Option.bind_eq_some_iff.1 h
    obtain ⟨b, hb, h3⟩ := Option.map_eq_some_iff.1 h2
    obtain ⟨u, hu, h4⟩ := Option.map_eq_some_iff.1 hb
    simp only [Prod.mk.injEq] at h3
    refine ⟨fs, fl, u, hs, hf, hu, ?_, h3.1⟩
    rw [← h3.2, ← h4]
    cases u <;> rfl
  · cases h
/-- What a step of a range over a string gives, and where it leaves the iterator. -/
def nextV (s : ByteArray) (p : Nat) : List Value := if p < s.size then [.bool true, .int .i64 p, .int .i32 (Utf8.decode s p).1] else [.bool false]
def nextP (s : ByteArray) (p : Nat) : Nat := if p < s.size then p + (Utf8.decode s p).2 else p
theorem nextV_0 {s : ByteArray} {p : Nat} : (nextV s p)[0]? = some (.bool (decide (p < s.size))) := by
  unfold nextV; split <;> simp_all
theorem nextV_in {s : ByteArray} {p : Nat} (h : p < s.size) : nextV s p = [.bool true, .int .i64 p, .int .i32 (Utf8.decode s p).1] := if_pos h
theorem nextP_in {s : ByteArray} {p : Nat} (h : p < s.size) : nextP s p = p + (Utf8.decode s p).2 := if_pos h
theorem decode_pos (s : ByteArray) (p : Nat) : 1 ≤ (Utf8.decode s p).2 := by
  simp only [Utf8.decode]
  repeat' split
  all_goals simp
/-- The code points of a string from an offset on, with their offsets. -/
def rnF (s : ByteArray) : Nat → Nat → List (Nat × Nat)
  | 0, _ => []
  | f + 1, p => if p < s.size then (p, (Utf8.decode s p).1) :: rnF s f (p + (Utf8.decode s p).2) else []
def rnS (s : ByteArray) : List (Nat × Nat) := rnF s s.size 0
theorem rnF_len (s : ByteArray) : ∀ f p, (rnF s f p).length ≤ f
  | 0, _ => by simp [rnF]
  | f + 1, p => by
    rw [rnF]; split
    · rw [List.length_cons]; have := rnF_len s f (p + (Utf8.decode s p).2); omega
    · simp
theorem runesFrom_eq (s : ByteArray) : ∀ f p acc, Conv.runesFrom s f p acc = acc ++ ((rnF s f p).map fun x => Value.int .i32 (x.2 : Int)).toArray
  | 0, p, acc => by simp [Conv.runesFrom, rnF]
  | f + 1, p, acc => by
    rw [Conv.runesFrom, rnF]
    split
    · show Conv.runesFrom s f (p + (Utf8.decode s p).2) (acc.push (.int .i32 (Int.ofNat (Utf8.decode s p).1))) = _
      rw [runesFrom_eq s f]; simp
    · simp
section
variable {N : Nat} {D : List Deferred} {w0 : World} {F : Nat → Prop} {G0 G : GH} {L Li Lo : OL} {T : List (Nat × Value)}
variable {r : Option Nat} {P : Program} {ops : Array Oper} {Q : Exit → Act → World → Prop} {rest : List Oper} {a : Act} {w : World}
variable {d : Nat} {ty : TypeId} {pos : String} {aft : Array Edge} {g : Option (Nat × Bool)}
theorem s_rem {t yt : TypeId} {x y : Operand} {p q : Int} (z : Int) (H : St N D w0 F G0 G L T a w) (hw : Region.wanted ⟨some d, .binOp .rem t x y yt, ty, pos, aft, g⟩ (yielded ops a.tmps) = true) (hx : ev T x = some (.int .i64 p)) (hy : ev T y = some (.int .i64 q)) (hq : ¬ q = 0) (hz : p.tmod q = z) (hd : Nat.blt d N = true)
    (k : ∀ a', St N D w0 F G0 G L ((d, .int .i64 z) :: T) a' w → WL r P ops Q rest a' w) : WL r P ops Q (⟨some d, .binOp .rem t x y yt, ty, pos, aft, g⟩ :: rest) a w := by
  subst hz
  refine wl_value (v := .int .i64 (p.tmod q)) (w' := w) hw rfl ?_ (k _ (H.put hd _ H.hp))
  simp [execOp, H.ev hx, H.ev hy, eqGuard, binOp, Op.intDiv, hq]
/-- A field of a struct value. -/
theorem s_vfield {s : TypeId} {x : Operand} {n off : Nat} {cs : Array Value} {v : Value} (hs : VFld P s n off) (H : St N D w0 F G0 G L T a w) (hw : Region.wanted ⟨some d, .field s x n, ty, pos, aft, g⟩ (yielded ops a.tmps) = true) (hx : ev T x = some (.agg cs)) (hv : cs[off]? = some v) (hd : Nat.blt d N = true)
    (k : ∀ a', St N D w0 F G0 G L ((d, v) :: T) a' w → WL r P ops Q rest a' w) : WL r P ops Q (⟨some d, .field s x n, ty, pos, aft, g⟩ :: rest) a w := by
  obtain ⟨fs, fl, u, h1, h2, h3, h4, h5⟩ := hs.parts
  have ha : (isAgg fl.type).run P w = .ok false w := by
    unfold isAgg
    simp only [Sem.run_bind, run_und h3, Result.andThen_ok]
    cases u <;> simp_all
  refine wl_value (v := v) (w' := w) hw rfl ?_ (k _ (H.put hd _ H.hp))
  subst h5
  simp [execOp, Instr.field, part, asAgg, Sem.run_bind, H.ev hx, run_und h1, h2, ha, hv]
/-- The beginning of a range over a string. -/
theorem s_range {t : TypeId} {x : Operand} {s : ByteArray} (ht : P.underlying t = some .string) (H : St N D w0 F G0 G L T a w) (hw : Region.wanted ⟨some d, .range t x, ty, pos, aft, g⟩ (yielded ops a.tmps) = true) (hx : ev T x = some (.string s)) (hd : Nat.blt d N = true)
    (k : ∀ b a' w', w0.heap.size ≤ b → St N D w0 F G0 G ((b, .stringIter s 0) :: L) ((d, .pointer (some ⟨b, 0, none⟩)) :: T) a' w' → WL r P ops Q rest a' w') : WL r P ops Q (⟨some d, .range t x, ty, pos, aft, g⟩ :: rest) a w := by
  refine wl_value (v := .pointer (some ⟨w.heap.size, 0, none⟩)) (w' := w.iter s 0) hw rfl ?_ (k _ _ _ H.hp.size (H.put hd _ (H.hp.alloc _)))
  simp only [execOp, H.ev hx, Sem.run_bind, run_range_string w t s ht, Result.andThen_ok, Sem.run_pure]
theorem upd_iter {w : World} {b p p' : Nat} {s : ByteArray} (h : w.heap[b]? = some (.stringIter s p)) : Upd b (.stringIter s p') w (w.iterAt b s p') := by
  have hlt : b < w.heap.size := (Array.getElem?_eq_some_iff.1 h).1
  refine ⟨rfl, rfl, rfl, by simp [World.iterAt], by simp [World.iterAt, hlt], fun k hk => ?_⟩
  simp only [World.iterAt]
  rw [Array.getElem?_setIfInBounds_ne (Ne.symm hk)]
/-- A step of a range over a string. -/
theorem s_next {x : Operand} {s : ByteArray} {b p i : Nat} (H : St N D w0 F G0 G L T a w) (hw : Region.wanted ⟨some d, .next x true, ty, pos, aft, g⟩ (yielded ops a.tmps) = true) (hx : ev T x = some (.pointer (some ⟨b, 0, none⟩))) (hi : L[i]? = some (b, .stringIter s p)) (hd : Nat.blt d N = true)
    (k : ∀ a' w', St N D w0 F G0 G (L.set i (b, .stringIter s (nextP s p))) ((d, .tuple (nextV s p).toArray) :: T) a' w' → WL r P ops Q rest a' w') : WL r P ops Q (⟨some d, .next x true, ty, pos, aft, g⟩ :: rest) a w := by
  have ho : w.heap[b]? = some (.stringIter s p) := H.hp.own _ (List.mem_of_getElem? hi)
  by_cases h : p < s.size
  · have k2 := k (a.put (some d) (.tuple (nextV s p).toArray)) (w.iterAt b s (nextP s p)) (H.put hd _ (H.hp.upd hi (upd_iter ho)))
    refine wl_value (v := .tuple (nextV s p).toArray) (w' := w.iterAt b s (nextP s p)) hw rfl ?_ k2
    rw [nextV_in h, nextP_in h]
    simp only [execOp, H.ev hx, Sem.run_bind, Lib.run_next_any_at w b s p _ ho h, Result.andThen_ok, Sem.run_pure]
  · have e : nextP s p = p := if_neg h
    have hs : L.set i (b, .stringIter s (nextP s p)) = L := by
      rw [e]; apply List.ext_getElem?; intro j
      rw [List.getElem?_set]
      split
      · rename_i hij; subst hij
        split
        · exact hi.symm
        · rename_i hj; rw [List.getElem?_eq_none (by omega)]
      · rfl
    have k2 := k (a.put (some d) (.tuple (nextV s p).toArray)) w (by rw [hs]; exact H.put hd _ H.hp)
    refine wl_value (v := .tuple (nextV s p).toArray) (w' := w) hw rfl ?_ k2
    rw [show nextV s p = [.bool false] from if_neg h]
    simp only [execOp, H.ev hx, Sem.run_bind, Lib.run_next_end_at w b s p _ ho h, Result.andThen_ok, Sem.run_pure]
/-- The code points of a string. -/
theorem s_runes {t u e : TypeId} {x : Operand} {s : ByteArray} (ht : P.underlying t = some .string) (hu : P.underlying u = some (.slice e)) (he : P.underlying e = some (.int .i32)) (H : St N D w0 F G0 G L T a w) (hw : Region.wanted ⟨some d, .convert t u x, ty, pos, aft, g⟩ (yielded ops a.tmps) = true) (hx : ev T x = some (.string s)) (hz : s.size ≤ 4294967296) (hd : Nat.blt d N = true)
    (k : ∀ v Lo a' w', IsRow e 1 v (rnS s).length ((rnS s).map fun x => Value.int .i32 (x.2 : Int)) Lo → St N D w0 F G0 G (Lo ++ L) ((d, v) :: T) a' w' → WL r P ops Q rest a' w') : WL r P ops Q (⟨some d, .convert t u x, ty, pos, aft, g⟩ :: rest) a w := by
  have hr := runesFrom_eq s s.size 0 #[]
  have hl := rnF_len s s.size 0
  have hsz : (Conv.runesFrom s s.size 0 #[]).size = (rnS s).length := by rw [hr]; simp [rnS]
  have hc := run_runes_of_string (P := P) w t u e s ht hu he (by rw [hsz]; unfold rnS; omega)
  have hge := grownCap_ge w (rnS s).length 0 e
  have hml : (rnS s).length ≤ maxLen := by
    have : maxLen = 9223372036854775807 := rfl
    unfold rnS; omega
  rw [hsz] at hc
  have hrow : IsRow e 1 (.slice (some ⟨w.heap.size, 0, none⟩) (rnS s).length (grownCap w (rnS s).length 0 e)) (rnS s).length ((rnS s).map fun x => Value.int .i32 (x.2 : Int)) [(w.heap.size, .cells (Conv.runesFrom s s.size 0 #[] ++ Array.replicate (grownCap w (rnS s).length 0 e - (rnS s).length) (.int .i32 0)) e (0, 0))] := by
    refine ⟨by simp, .inr ⟨_, _, _, rfl, rfl, hge, grownCap_le_maxLen w _ 0 e hml, ?_, ?_⟩⟩
    · simp only [Array.size_append, hsz, Array.size_replicate]; omega
    · rw [hr, Array.toList_append, Nat.mul_one]
      simp only [Array.empty_append, rnS]
      rw [List.take_left' (by simp)]
  have k2 := k _ _ _ _ hrow (H.put hd _ (H.hp.drew.alloc _))
  refine wl_value (v := .slice (some ⟨w.heap.size, 0, none⟩) (rnS s).length (grownCap w (rnS s).length 0 e)) (w' := w.drew.alloc _) hw rfl ?_ k2
  simp only [execOp, H.ev hx, Sem.run_bind, hc, Result.andThen_ok, Sem.run_pure]
/-- The string of some code points. -/
theorem s_ofRunes {t u e : TypeId} {x : Operand} {b o n c : Nat} (zs : List Int) (ht : P.underlying t = some (.slice e)) (he : P.underlying e = some (.int .i32)) (hu : P.underlying u = some .string) (H : St N D w0 F G0 G L T a w) (hw : Region.wanted ⟨some d, .convert t u x, ty, pos, aft, g⟩ (yielded ops a.tmps) = true) (hx : ev T x = some (.slice (some ⟨b, o, none⟩) n c)) (hn : zs.length = n)
    (hc : ∀ j (h : j < zs.length), w.cell? ⟨b, o + j, none⟩ = some (.int .i32 zs[j])) (hd : Nat.blt d N = true)
    (k : ∀ a', St N D w0 F G0 G L ((d, .string (runesBytes zs)) :: T) a' w → WL r P ops Q rest a' w) : WL r P ops Q (⟨some d, .convert t u x, ty, pos, aft, g⟩ :: rest) a w := by
  have hr := run_convert_runes (P := P) w t u e ⟨b, o, none⟩ n c zs (by omega) ht he hu (fun j hj => by
    have h := hc j hj
    rw [List.getD_eq_getElem?_getD, List.getElem?_eq_getElem hj, add_lit]
    exact h)
  rw [List.take_of_length_le (by omega)] at hr
  refine wl_value (v := .string (runesBytes zs)) (w' := w) hw rfl ?_ (k _ (H.put hd _ H.hp))
  simp only [execOp, H.ev hx, Sem.run_bind, hr, Result.andThen_ok, Sem.run_pure]
/-- A part of a string. -/
theorem s_strSlice {t : TypeId} {x y z : Operand} {s : ByteArray} {ky kz : IntKind} {p q : Int} (lo hi : Nat) (ht : P.underlying t = some .string) (H : St N D w0 F G0 G L T a w) (hw : Region.wanted ⟨some d, .slice t x (some y) (some z) none, ty, pos, aft, g⟩ (yielded ops a.tmps) = true) (hx : ev T x = some (.string s)) (hy : ev T y = some (.int ky p)) (hz : ev T z = some (.int kz q)) (hp : p = (lo : Int)) (hq : q = (hi : Int)) (h1 : lo ≤ hi) (h2 : hi ≤ s.size) (hd : Nat.blt d N = true)
    (k : ∀ a', St N D w0 F G0 G L ((d, .string (s.extract lo hi)) :: T) a' w → WL r P ops Q rest a' w) : WL r P ops Q (⟨some d, .slice t x (some y) (some z) none, ty, pos, aft, g⟩ :: rest) a w := by
  subst hp; subst hq
  have hr := run_slice_string (P := P) w t s ky kz (lo : Int) (hi : Int) ht (by omega) (by omega) (by omega)
  rw [Int.toNat_natCast, Int.toNat_natCast] at hr
  refine wl_value (v := .string (s.extract lo hi)) (w' := w) hw rfl ?_ (k _ (H.put hd _ H.hp))
  simp only [execOp, H.ev hx, Option.map_some, Option.map_none, H.ev hy, H.ev hz, Sem.run_bind, run_sliceAt_string w t _ _ _ _ ht, hr, Result.andThen_ok, Sem.run_pure]
/-- The rest of a string. -/
theorem s_strFrom {t : TypeId} {x y : Operand} {s : ByteArray} {ky : IntKind} {p : Int} (lo : Nat) (ht : P.underlying t = some .string) (H : St N D w0 F G0 G L T a w) (hw : Region.wanted ⟨some d, .slice t x (some y) none none, ty, pos, aft, g⟩ (yielded ops a.tmps) = true) (hx : ev T x = some (.string s)) (hy : ev T y = some (.int ky p)) (hp : p = (lo : Int)) (h1 : lo ≤ s.size) (hd : Nat.blt d N = true)
    (k : ∀ a', St N D w0 F G0 G L ((d, .string (s.extract lo s.size)) :: T) a' w → WL r P ops Q rest a' w) : WL r P ops Q (⟨some d, .slice t x (some y) none none, ty, pos, aft, g⟩ :: rest) a w := by
  subst hp
  have hr := run_slice_string_l (P := P) w t s ht ky (lo : Int) (by omega) (by omega)
  rw [Int.toNat_natCast] at hr
  refine wl_value (v := .string (s.extract lo s.size)) (w' := w) hw rfl ?_ (k _ (H.put hd _ H.hp))
  simp only [execOp, H.ev hx, Option.map_some, Option.map_none, H.ev hy, Sem.run_bind, run_sliceAt_string w t _ _ _ _ ht, hr, Result.andThen_ok, Sem.run_pure]
/-- The rest of a slice. -/
theorem s_sliceFrom {t e : TypeId} {sz bytes : Nat} {zero : List Value} {agg : Bool} (hs : P.underlying t = some (.slice e)) (ht : Ty P e sz bytes zero agg) {x y : Operand} {A : Option Addr} {n c : Nat} (lo : Nat) {p : Int} (H : St N D w0 F G0 G L T a w)
    (hw : Region.wanted ⟨some d, .slice t x (some y) none none, ty, pos, aft, g⟩ (yielded ops a.tmps) = true) (hx : ev T x = some (.slice A n c)) (hy : ev T y = some (.int .i64 p)) (hp : p = (lo : Int)) (h1 : lo ≤ n) (hd : Nat.blt d N = true)
    (k : ∀ a', St N D w0 F G0 G L ((d, .slice (if c = lo then A else A.map (·.add (lo * sz))) (n - lo) (c - lo)) :: T) a' w → WL r P ops Q rest a' w) : WL r P ops Q (⟨some d, .slice t x (some y) none none, ty, pos, aft, g⟩ :: rest) a w := by
  subst hp
  refine wl_value (v := .slice (if c = lo then A else A.map (·.add (lo * sz))) (n - lo) (c - lo)) (w' := w) hw rfl ?_ (k _ (H.put hd _ H.hp))
  simp [execOp, H.ev hx, H.ev hy, Instr.sliceAt, Instr.slice, Instr.sliceBounds, Instr.sliceBound, Sem.run_bind, run_und hs, ht.run_size, asIntOf, h1]
/-- An array whose elements are given. -/
theorem s_buildArr {t e : TypeId} {n sz bytes : Nat} {zero z : List Value} {agg : Bool} (hs : P.underlying t = some (.array n e)) (ht : Ty P e sz bytes zero agg) (hz : (P.info? t).map (fun i => i.zero.map fun z => z.cells.toList) = some (some z)) {xs : List (Nat × Operand)} {vs : List (Nat × Value)} {vs' : List (Nat × List Value)} (cs : List Value) (H : St N D w0 F G0 G L T a w) (hw : Region.wanted ⟨some d, .build t xs.toArray, ty, pos, aft, g⟩ (yielded ops a.tmps) = true)
    (hx : pts T xs = some vs) (hv : vs.map (fun x => (x.1, x.2.cells.toList)) = vs') (hpl : ∀ i q, ((List.range n).map fun i => (i * sz, sz))[i]? = some q → (some (i * sz, sz) : Option (Nat × Nat)) = some q) (hf : fillL ((List.range n).map fun i => (i * sz, sz)) z vs' = some cs) (hd : Nat.blt d N = true)
    (k : ∀ a', St N D w0 F G0 G L ((d, .agg cs.toArray) :: T) a' w → WL r P ops Q rest a' w) : WL r P ops Q (⟨some d, .build t xs.toArray, ty, pos, aft, g⟩ :: rest) a w := by
  refine wl_value (v := .agg cs.toArray) (w' := w) hw rfl ?_ (k _ (H.put hd _ H.hp))
  obtain ⟨i, hi, hi2⟩ := Option.map_eq_some_iff.1 hz
  obtain ⟨z0, hz0, hz1⟩ := Option.map_eq_some_iff.1 hi2
  have hzv : (zeroValue t).run P w = .ok z0 w := by simp [zeroValue, Sem.run_bind, run_info hi, hz0]
  have hzc : z0.cells = z.toArray := by rw [← hz1]
  have hfill := fill_eq (fun i => some (i * sz, sz)) _ hpl vs vs' z cs hv hf
  simp only [execOp, List.map_toArray, H.pts hx, Instr.build, Sem.run_bind, hzv, run_und hs, Result.andThen_ok, ht.run_size, hzc, hfill, Sem.run_pure]
end
end Go.Proofs.YtpmcdlhhfbobfaaDoor
