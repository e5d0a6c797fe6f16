/-
  Buffers of strings: the operations of strings.Builder.
-/
import Derived.Test.YtpmcdlhhfbobfaaDoorDy
import Derived.Lib.Builder
import Derived.Lib.UnsafeStr
import Derived.Lib.AppendStr
import Derived.Laws.Externs
namespace Go.Proofs.YtpmcdlhhfbobfaaDoor
open Go.RowKit
structure Siz (P : Program) (t : TypeId) : Prop where
  h : (P.info? t).map (fun j => j.size == 0) = some false
theorem Siz.parts {P : Program} {t : TypeId} (h : Siz P t) : ∃ j, P.info? t = some j ∧ j.size ≠ 0 := by
  obtain ⟨j, h1, h2⟩ := Option.map_eq_some_iff.1 h.h
  exact ⟨j, h1, by simpa using h2⟩
structure U8 (P : Program) (e : TypeId) : Prop where
  h : (P.info? e).map (fun i => (i.zero, i.size, i.bytes)) = some (some (.int .u8 0), 1, 1)
section
variable {N : Nat} {D : List Deferred} {w0 : World} {F : Nat → Prop} {G0 G : GH} {L Li Lo : OL} {T : List (Nat × Value)}
variable {r : Option Nat} {P : Program} {ops : Array Oper} {Q : Exit → Act → World → Prop} {rest : List Oper} {a : Act} {w : World}
variable {d : Nat} {ty : TypeId} {pos : String} {aft : Array Edge} {g : Option (Nat × Bool)}
theorem Hp.shape (h : Hp w0 F G0 G L w) {i b : Nat} {c : Array Value} {e : TypeId} {fz : Nat × Nat} (hi : L[i]? = some (b, .cells c e fz)) : w.shape? b = some (e, c.size) := by
  have := h.own _ (List.mem_of_getElem? hi)
  simp only at this
  simp [World.shape?, this]
theorem s_toUnsafe {t u te e : TypeId} {x : Operand} {b o : Nat} {c : Array Value} {fz : Nat × Nat} (hs : P.underlying t = some (.pointer te)) (hu : P.underlying u = some .unsafePointer) (hj : Siz P te) (H : St N D w0 F G0 G L T a w) (hw : Region.wanted ⟨some d, .convert t u x, ty, pos, aft, g⟩ (yielded ops a.tmps) = true)
    (hx : ev T x = some (.pointer (some ⟨b, o, none⟩))) (i : Nat) (hi : L[i]? = some (b, .cells c e fz)) (ho : Nat.blt o c.size = true) (hd : Nat.blt d N = true)
    (k : ∀ a', St N D w0 F G0 G L ((d, .pointer (some ⟨b, o, none⟩)) :: T) a' w → WL r P ops Q rest a' w) : WL r P ops Q (⟨some d, .convert t u x, ty, pos, aft, g⟩ :: rest) a w := by
  obtain ⟨j, h1, h2⟩ := hj.parts
  refine wl_value (v := .pointer (some ⟨b, o, none⟩)) (w' := w) hw rfl ?_ (k _ (H.put hd _ H.hp))
  have h := Lib.run_to_unsafe (P := P) w ⟨b, o, none⟩ hs hu h1 h2 (H.hp.shape hi) (Eq.mp Nat.blt_eq ho)
  simp only [execOp, H.ev hx, Sem.run_bind, h, Result.andThen_ok, Sem.run_pure]
theorem s_fromUnsafe {t u te e : TypeId} {x : Operand} {b o : Nat} {c : Array Value} {fz : Nat × Nat} (hs : P.underlying t = some .unsafePointer) (hu : P.underlying u = some (.pointer te)) (hj : Siz P te) (H : St N D w0 F G0 G L T a w) (hw : Region.wanted ⟨some d, .convert t u x, ty, pos, aft, g⟩ (yielded ops a.tmps) = true)
    (hx : ev T x = some (.pointer (some ⟨b, o, none⟩))) (i : Nat) (hi : L[i]? = some (b, .cells c e fz)) (hl : liesAt P P.depth e (c.size / P.cellsOf e) o te 1 = true) (hd : Nat.blt d N = true)
    (k : ∀ a', St N D w0 F G0 G L ((d, .pointer (some ⟨b, o, none⟩)) :: T) a' w → WL r P ops Q rest a' w) : WL r P ops Q (⟨some d, .convert t u x, ty, pos, aft, g⟩ :: rest) a w := by
  obtain ⟨j, h1, h2⟩ := hj.parts
  refine wl_value (v := .pointer (some ⟨b, o, none⟩)) (w' := w) hw rfl ?_ (k _ (H.put hd _ H.hp))
  have h := Lib.run_from_unsafe (P := P) w ⟨b, o, none⟩ hs hu h1 (H.hp.shape hi) hl
  simp only [execOp, H.ev hx, Sem.run_bind, h, Result.andThen_ok, Sem.run_pure]
/-- A function that the model runs in place, and that hands back its argument. -/
theorem s_noEscape {f : FuncId} {xs : List Operand} {v : Value} {ts : Array TypeId} (hcf : ∀ (w : World), (callFunc f #[v]).run P w = .ok (.value v) w) (H : St N D w0 F G0 G L T a w) (hw : Region.wanted ⟨some d, .call { callee := .value (.func f), args := xs.toArray, argTypes := ts }, ty, pos, aft, g⟩ (yielded ops a.tmps) = true)
    (hx : evs T xs = some [v]) (hd : Nat.blt d N = true)
    (k : ∀ a', St N D w0 F G0 G L ((d, v) :: T) a' w → WL r P ops Q rest a' w) : WL r P ops Q (⟨some d, .call { callee := .value (.func f), args := xs.toArray, argTypes := ts }, ty, pos, aft, g⟩ :: rest) a w := by
  refine wl_value (v := v) (w' := w) hw rfl ?_ (k _ (H.put hd _ H.hp))
  have h1 := H.evs hx
  simp [execOp, resolve, Act.eval, Deferred.ofValue, invoke, Sem.run_bind, h1, hcf]
theorem run_noEsc {f : FuncId} {fn : Func} (hf : P.funcs[f]? = some fn) (hname : (fn.name == "runtime.NumGoroutine") = false) (hb : fn.body.isNone = true) (hn : Extern.findNext fn = none) (he : Extern.find fn = some Extern.AbiNoEscape.same) (v : Value) (w : World) : (callFunc f #[v]).run P w = .ok (.value v) w := by
  rw [run_callFunc_extern hf hname hb hn he, Lib.run_noEscape]
  rfl
theorem s_eqnilp {t u te : TypeId} (hs : P.underlying t = some (.pointer te)) {x : Operand} {p : Option Addr} (H : St N D w0 F G0 G L T a w) (hw : Region.wanted ⟨some d, .binOp .eql t x (.const (.pointer none)) u, ty, pos, aft, g⟩ (yielded ops a.tmps) = true) (hx : ev T x = some (.pointer p)) (hd : Nat.blt d N = true)
    (k : ∀ a', St N D w0 F G0 G L ((d, .bool p.isNone) :: T) a' w → WL r P ops Q rest a' w) : WL r P ops Q (⟨some d, .binOp .eql t x (.const (.pointer none)) u, ty, pos, aft, g⟩ :: rest) a w := by
  refine wl_value (v := .bool p.isNone) (w' := w) hw rfl ?_ (k _ (H.put hd _ H.hp))
  have h1 : (Op.equal t (.pointer p) (.pointer none)).run P w = .ok p.isNone w := by
    show (Op.equalIn (9999 + 1) t (.pointer p) (.pointer none)).run P w = _
    rw [Op.equalIn.eq_2, Sem.run_bind, run_und hs]
    cases p <;> simp
  have h2 : (do eqGuard .eql t x (.const (.pointer none)) (.pointer p) (.pointer none); binOp .eql t (.pointer p) (.pointer none) : Sem Value).run P w = .ok (.bool p.isNone) w := by
    have e : (do eqGuard .eql t x (.const (.pointer none)) (.pointer p) (.pointer none); binOp .eql t (.pointer p) (.pointer none) : Sem Value) = (do pure (.bool (← Op.equal t (.pointer p) (.pointer none))) : Sem Value) := rfl
    rw [e, Sem.run_bind, h1]; rfl
  have e0 : execOp a.eval ⟨some d, .binOp .eql t x (.const (.pointer none)) u, ty, pos, aft, g⟩ = (do pure (.value (← (do eqGuard .eql t x (.const (.pointer none)) (.pointer p) (.pointer none); binOp .eql t (.pointer p) (.pointer none) : Sem Value))) : Sem Next) := by
    simp only [execOp, H.ev hx]; rfl
  rw [e0, Sem.run_bind, h2]
  rfl
theorem s_neqsame {t u te : TypeId} (hs : P.underlying t = some (.pointer te)) (hj : Siz P te) {x y : Operand} {p : Addr} (H : St N D w0 F G0 G L T a w) (hw : Region.wanted ⟨some d, .binOp .neq t x y u, ty, pos, aft, g⟩ (yielded ops a.tmps) = true) (hx : ev T x = some (.pointer (some p))) (hy : ev T y = some (.pointer (some p))) (hd : Nat.blt d N = true)
    (k : ∀ a', St N D w0 F G0 G L ((d, .bool false) :: T) a' w → WL r P ops Q rest a' w) : WL r P ops Q (⟨some d, .binOp .neq t x y u, ty, pos, aft, g⟩ :: rest) a w := by
  obtain ⟨j, h1, h2⟩ := hj.parts
  refine wl_value (v := .bool false) (w' := w) hw rfl ?_ (k _ (H.put hd _ H.hp))
  have h := Lib.run_neq_ptr_same (P := P) (w := w) p hs h1
  simp only [execOp, H.ev hx, H.ev hy]
  simp [Sem.run_bind, eqGuard, h]
/-- An append of a string's bytes. -/
theorem s_appendStr {t u e : TypeId} (hs : P.underlying t = some (.slice e)) (hu : P.underlying u = some .string) (ht : U8 P e) {x y : Operand} {v : Value} {n : Nat} {xs : List Value} {s : ByteArray} (H : St N D w0 F G0 G (Li ++ Lo) T a w)
    (hw : Region.wanted ⟨some d, .call { callee := .builtin .append, args := #[x, y], argTypes := #[t, u] }, ty, pos, aft, g⟩ (yielded ops a.tmps) = true) (hx : ev T x = some v) (hy : ev T y = some (.string s)) (hrow : IsRow e 1 v n xs Lo)
    (h63 : n + s.size ≤ 140737488355328) (hd : Nat.blt d N = true)
    (k : ∀ v' Lo' a' w', IsRow e 1 v' (n + s.size) (xs ++ Lib.strCells s) Lo' → St N D w0 F G0 G (Li ++ Lo') ((d, v') :: T) a' w' → WL r P ops Q rest a' w') :
    WL r P ops Q (⟨some d, .call { callee := .builtin .append, args := #[x, y], argTypes := #[t, u] }, ty, pos, aft, g⟩ :: rest) a w := by
  obtain ⟨i, hi, hz⟩ := Option.map_eq_some_iff.1 ht.h
  simp only [Prod.mk.injEq] at hz
  have hown := hrow.owns H.hp
  obtain ⟨v', w2, hrun, r1, r2, r3⟩ := Lib.run_append_own_string (P := P) (w := w) 0 t u ty e i hs hu hi hz.1 hz.2.1 hz.2.2 v n xs hown s (by simp only [maxLen]; omega) h63 (Nat.zero_le _)
  have hxl : xs.length = n := by simpa using hrow.1
  have hb : v'.ownBlock = v.ownBlock ∨ v'.ownBlock = some w.heap.size := by
    rcases hown.2 with ⟨hv, hn⟩ | ⟨g, cap, cur, hv, _, hg, hnc, hcm, hcs, _⟩
    · subst hv
      by_cases hm : s.size = 0
      · left; rw [r3.2 ⟨rfl, hm⟩]
      · right
        have hr := run_append_nil_string (P := P) w t u ty e i (.int .u8 0) hs hu hi hz.1 s (by omega) (by omega) (by rw [hz.2.2]; omega)
        rw [hrun] at hr
        injection hr with h1 h2
        rw [h1]; rfl
    · subst hv
      by_cases hroom : n + s.size ≤ cap
      · left
        have hcs' : cur.size = cap := by simpa using hcs
        have hr := Lib.run_append_room_string (P := P) (w := w) t u ty e i hs hu hi hz.2.1 g n cap cur hg s hroom (by omega)
        rw [hrun] at hr
        injection hr with h1 h2
        rw [h1]; rfl
      · right
        have holds : ∀ j u, xs[j]? = some u → w.cell? ((⟨g, 0, none⟩ : Addr).add j) = some u := hown.cells (g := g) rfl
        have hr := Lib.run_append_grow_string (P := P) (w := w) t u ty e i (.int .u8 0) hs hu hi hz.1 ⟨g, 0, none⟩ n cap xs (by rw [hz.2.1]; simpa using hxl) holds s (by omega) (by omega) (by rw [hz.2.2]; exact growslice_fits (by omega) (by omega))
        rw [hrun] at hr
        injection hr with h1 h2
        rw [h1]; rfl
  obtain ⟨Lo', hr, hch⟩ := change_row hrow H.hp.owns r1 r2 hb
  refine wl_value (v := v') (w' := w2) hw rfl ?_ (k v' Lo' _ w2 hr (H.put hd v' (H.hp.change hch)))
  simp [execOp, resolve, invoke, builtin, H.ev hx, H.ev hy, Sem.run_bind, hrun]
theorem s_sliceData {t : TypeId} {x : Operand} {p : Addr} {n c : Nat} (H : St N D w0 F G0 G L T a w) (hw : Region.wanted ⟨some d, .call { callee := .builtin .unsafeSliceData, args := #[x], argTypes := #[t] }, ty, pos, aft, g⟩ (yielded ops a.tmps) = true) (hx : ev T x = some (.slice (some p) n c)) (hc : c ≠ 0) (hd : Nat.blt d N = true)
    (k : ∀ a', St N D w0 F G0 G L ((d, .pointer (some p)) :: T) a' w → WL r P ops Q rest a' w) : WL r P ops Q (⟨some d, .call { callee := .builtin .unsafeSliceData, args := #[x], argTypes := #[t] }, ty, pos, aft, g⟩ :: rest) a w := by
  refine wl_value (v := .pointer (some p)) (w' := w) hw rfl ?_ (k _ (H.put hd _ H.hp))
  have h := Lib.run_unsafeSliceData_row (P := P) (w := w) #[t] ty p n c hc
  simp [execOp, resolve, invoke, builtin, H.ev hx, Sem.run_bind, h]
theorem upd_freeze {w : World} {b n : Nat} {c : Array Value} {e : TypeId} {fz : Nat × Nat} (h : w.heap[b]? = some (.cells c e fz)) (hn : n ≠ 0) : ∃ fz', Upd b (.cells c e fz') w (w.freeze ⟨b, 0, none⟩ n) := by
  unfold World.freeze
  rw [if_neg hn]
  refine ⟨if fz.1 == fz.2 then (0, 0 + n) else (min fz.1 0, max fz.2 (0 + n)), rfl, rfl, rfl, by simp, ?_, fun k hk => ?_⟩
  · simp [Array.getElem?_modify, h]
  · simp [Array.getElem?_modify, Ne.symm hk]
theorem s_unsafeString {pt it e : TypeId} {x y : Operand} {b i : Nat} {cur : Array Value} {fz : Nat × Nat} (l : List UInt8) (hp : P.underlying pt = some (.pointer e)) (hc : P.cellsOf e = 1) (h0 : l ≠ []) (h63 : l.length ≤ 9223372036854775807) (H : St N D w0 F G0 G L T a w)
    (hw : Region.wanted ⟨some d, .call { callee := .builtin .unsafeString, args := #[x, y], argTypes := #[pt, it] }, ty, pos, aft, g⟩ (yielded ops a.tmps) = true) (hx : ev T x = some (.pointer (some ⟨b, 0, none⟩))) (hy : ev T y = some (.int .i64 (l.length : Int)))
    (hi : L[i]? = some (b, .cells cur e fz)) (hl : cur.toList.take l.length = Lib.byteCells l) (hd : Nat.blt d N = true)
    (k : ∀ fz' a' w', St N D w0 F G0 G (L.set i (b, .cells cur e fz')) ((d, .string ⟨l.toArray⟩) :: T) a' w' → WL r P ops Q rest a' w') : WL r P ops Q (⟨some d, .call { callee := .builtin .unsafeString, args := #[x, y], argTypes := #[pt, it] }, ty, pos, aft, g⟩ :: rest) a w := by
  have hb := H.hp.own _ (List.mem_of_getElem? hi)
  simp only at hb
  have hlen : l.length ≤ cur.size := by
    have := congrArg List.length hl
    simp only [List.length_take, Lib.byteCells_length, Array.length_toList] at this
    omega
  obtain ⟨fz', hu⟩ := upd_freeze (n := l.length) hb (by simpa using h0)
  have h := Lib.run_unsafeString_row (P := P) w pt it ty e hp hc b cur.size (H.hp.shape hi) l h0 hlen h63 (fun j x hj => by
    rw [add_lit, Nat.zero_add]
    simp only [World.cell?, hb]
    have h2 : (cur.toList.take l.length)[j]? = some (.int .u8 x.toNat) := by rw [hl]; simp [Lib.byteCells, hj]
    rw [List.getElem?_take] at h2
    split at h2
    · simpa using h2
    · cases h2)
  refine wl_value (v := .string ⟨l.toArray⟩) (w' := w.freeze ⟨b, 0, none⟩ l.length) hw rfl ?_ (k fz' _ _ (H.put hd _ (H.hp.upd hi hu)))
  simp [execOp, resolve, invoke, builtin, H.ev hx, H.ev hy, Sem.run_bind, h]
theorem fillAll (sz n : Nat) : ∀ (css : List (List Value)) (k : Nat) (pre z : List Value), pre.length = k * sz → z.length = css.length * sz → (∀ c ∈ css, c.length = sz) → k + css.length = n →
    fillL ((List.range n).map fun i => (i * sz, sz)) (pre ++ z) ((css.zipIdx k).map fun p => (p.2, p.1)) = some (pre ++ css.flatten)
  | [], k, pre, z, _, hz, _, _ => by
    have : z = [] := List.eq_nil_of_length_eq_zero (by simpa using hz)
    subst this
    simp [fillL]
  | c :: css, k, pre, z, hp, hz, hc, hn => by
    have hcl := hc c List.mem_cons_self
    simp only [List.length_cons] at hz hn
    have hpl : ((List.range n).map fun i => (i * sz, sz))[k]? = some (k * sz, sz) := by
      rw [List.getElem?_map, List.getElem?_range (by omega)]; rfl
    have hz1 : z.length = sz + css.length * sz := by rw [hz, Nat.add_mul, Nat.one_mul, Nat.add_comm]
    have hle : k * sz + c.length ≤ (pre ++ z).length := by rw [List.length_append, hp, hcl]; omega
    have e1 : Nat.beq c.length sz = true := by rw [hcl]; exact Nat.beq_refl sz
    have e2 : Nat.ble (k * sz + c.length) (pre ++ z).length = true := Eq.mpr Nat.ble_eq hle
    rw [List.zipIdx_cons, List.map_cons]
    simp only [fillL, hpl, e1, e2, Bool.and_self, cond_true]
    have e3 : setRow (pre ++ z) (k * sz) c = (pre ++ c) ++ z.drop sz := by
      rw [setRow_eq _ _ _ hle, ← hp, List.take_left' rfl, List.drop_append, List.drop_of_length_le (by omega), List.nil_append, hcl]
      congr 2; omega
    rw [e3, fillAll sz n css (k + 1) (pre ++ c) (z.drop sz) (by rw [List.length_append, hp, hcl, Nat.succ_mul]) (by rw [List.length_drop]; omega) (fun q hq => hc q (List.mem_cons_of_mem _ hq)) (by omega)]
    simp
/-- A slice whose elements are all given. -/
theorem s_buildAll {t e : TypeId} {sz bytes : Nat} {zero : List Value} {agg : Bool} (hs : P.underlying t = some (.slice e)) (ht : Ty P e sz bytes zero agg) {n : Nat} {xs : List (Nat × Operand)} {vs : List (Nat × Value)} (css : List (List Value)) (H : St N D w0 F G0 G L T a w) (hw : Region.wanted ⟨some d, .buildSlice t n xs.toArray, ty, pos, aft, g⟩ (yielded ops a.tmps) = true)
    (hx : pts T xs = some vs) (hv : vs.map (fun x => (x.1, x.2.cells.toList)) = (css.zipIdx 0).map fun p => (p.2, p.1)) (hl : css.all (fun c => Nat.beq c.length sz) = true) (hcn : Nat.beq css.length n = true) (hn : Nat.ble (n * sz) 1000 = true) (hn0 : Nat.beq (n * sz) 0 = false) (hd : Nat.blt d N = true)
    (k : ∀ b a' w', w0.heap.size ≤ b → St N D w0 F G0 G ((b, .cells css.flatten.toArray e (0, 0)) :: L) ((d, .slice (some ⟨b, 0, none⟩) n n) :: T) a' w' → WL r P ops Q rest a' w') : WL r P ops Q (⟨some d, .buildSlice t n xs.toArray, ty, pos, aft, g⟩ :: rest) a w := by
  have hcn' : css.length = n := Nat.eq_of_beq_eq_true hcn
  refine s_buildSlice (vs' := (css.zipIdx 0).map fun p => (p.2, p.1)) hs ht ((List.range (n * sz)).map (fun i => zero[i % zero.length]!)) css.flatten H hw hx hv hn hn0 rfl (fun i q h => ?_) ?_ hd k
  · rw [List.getElem?_map] at h
    obtain ⟨j, hj, rfl⟩ := Option.map_eq_some_iff.1 h
    obtain ⟨h1, h2⟩ := List.getElem?_eq_some_iff.1 hj
    rw [List.getElem_range] at h2
    rw [h2]
  · have h := fillAll sz n css 0 [] ((List.range (n * sz)).map (fun i => zero[i % zero.length]!)) (by simp) (by simp [hcn']) (fun c hc => Nat.eq_of_beq_eq_true (List.all_eq_true.1 hl c hc)) (by omega)
    simpa using h
end
end Go.Proofs.YtpmcdlhhfbobfaaDoor
