/-
  Slices that a call builds: rows of its own, append, and how they are given up.
-/
import Derived.Test.YtpmcdlhhfbobfaaDoorDr
namespace Go.Proofs.YtpmcdlhhfbobfaaDoor
open Go.RowKit
/-- The slice value v of n elements of type e (sz cells each) has the cells xs, in a block of the call's own (or is nil). -/
def IsRow (e sz : Nat) (v : Value) (n : Nat) (xs : List Value) (Lo : OL) : Prop :=
  xs.length = n * sz ∧ ((v = .slice none 0 0 ∧ n = 0 ∧ Lo = []) ∨ ∃ b cap cur, v = .slice (some ⟨b, 0, none⟩) n cap ∧ Lo = [(b, .cells cur e (0, 0))] ∧ n ≤ cap ∧ cap ≤ maxLen ∧ cur.size = cap * sz ∧ cur.toList.take (n * sz) = xs)
theorem IsRow.nil {e sz : Nat} : IsRow e sz (.slice none 0 0) 0 [] [] := ⟨by simp, .inl ⟨rfl, rfl, rfl⟩⟩
/-- The value's shape. -/
theorem IsRow.shape {e sz n : Nat} {v : Value} {xs : List Value} {Lo : OL} (h : IsRow e sz v n xs Lo) : ∃ A c, v = .slice A n c ∧ n ≤ c ∧ c ≤ maxLen := by
  rcases h.2 with ⟨rfl, rfl, _⟩ | ⟨b, cap, cur, rfl, _, h1, h2, _, _⟩
  · exact ⟨none, 0, rfl, Nat.le_refl _, by simp [maxLen]⟩
  · exact ⟨_, cap, rfl, h1, h2⟩
section
variable {N : Nat} {D : List Deferred} {w0 : World} {F : Nat → Prop} {G0 G : GH} {L Li Lo : OL} {T : List (Nat × Value)}
variable {r : Option Nat} {P : Program} {ops : Array Oper} {Q : Exit → Act → World → Prop} {rest : List Oper} {a : Act} {w w' : World}
variable {d : Nat} {ty : TypeId} {pos : String} {aft : Array Edge} {g : Option (Nat × Bool)}
theorem IsRow.owns {e sz n : Nat} {v : Value} {xs : List Value} (h : IsRow e sz v n xs Lo) (H : Hp w0 F G0 G (Li ++ Lo) w) : w.ownsRow 0 e sz v n xs := by
  refine ⟨h.1, ?_⟩
  rcases h.2 with ⟨h1, h2, _⟩ | ⟨b, cap, cur, h1, h2, h3, h4, h5, h6⟩
  · exact .inl ⟨h1, h2⟩
  · exact .inr ⟨b, cap, cur, h1, Nat.zero_le _, H.own (b, .cells cur e (0, 0)) (by simp [h2]), h3, h4, h5, h6⟩
theorem change_row {e sz n n' : Nat} {v v' : Value} {xs xs' : List Value} (h : IsRow e sz v n xs Lo) (ho : Owns G Lo w) (hown : w'.ownsRow 0 e sz v' n' xs') (hg : w.grownBy w' v.ownBlock) (hb : v'.ownBlock = v.ownBlock ∨ v'.ownBlock = some w.heap.size) :
    ∃ Lo', IsRow e sz v' n' xs' Lo' ∧ Change w w' G G Lo Lo' := by
  have hrow : ∀ k, v.ownBlock = some k → ∃ p ∈ Lo, p.1 = k := by
    intro k hk
    rcases h.2 with ⟨h1, _, _⟩ | ⟨b, cap, cur, h1, h2, _⟩
    · rw [h1] at hk; cases hk
    · rw [h1] at hk; simp only [Value.ownBlock, Option.some.injEq] at hk; exact ⟨_, by rw [h2]; exact List.mem_singleton_self _, hk⟩
  have hro : ∀ k o, G k = some o → w'.heap[k]? = some o := by
    intro k o hk
    rw [hg.block k (lt_of_heap (ho.ro k o hk)) (fun e' => by
      obtain ⟨p, hp, e2⟩ := hrow k e'.symm
      have := ho.sep p hp
      rw [e2, hk] at this; cases this)]
    exact ho.ro k o hk
  have hfr : ∀ k, k < w.heap.size → (∀ p ∈ Lo, p.1 ≠ k) → w'.heap[k]? = w.heap[k]? := fun k hk hn => hg.block k hk fun e' => by
    obtain ⟨p, hp, e2⟩ := hrow k e'.symm
    exact hn p hp e2
  rcases hown.2 with ⟨h1, h2⟩ | ⟨b, cap, cur, h1, _, h3, h4, h5, h6, h7⟩
  · exact ⟨[], ⟨hown.1, .inl ⟨h1, h2, rfl⟩⟩, ⟨hg.os, hg.tape, hg.output, hg.size, hfr, fun _ _ h => h, fun _ _ h => .inl h, ⟨hro, fun _ h => (by cases h), fun _ h => (by cases h), List.Pairwise.nil⟩, fun _ h => (by cases h)⟩⟩
  · refine ⟨[(b, .cells cur e (0, 0))], ⟨hown.1, .inr ⟨b, cap, cur, h1, rfl, h4, h5, h6, h7⟩⟩, ⟨hg.os, hg.tape, hg.output, hg.size, hfr, fun _ _ h => h, fun _ _ h => .inl h, ⟨hro, fun p hp => ?_, fun p hp => ?_, by simp⟩, fun p hp => ?_⟩⟩
    · rw [List.mem_singleton.1 hp]; exact h3
    · rw [List.mem_singleton.1 hp]
      cases hgb : G b with
      | none => rfl
      | some o =>
        exfalso
        rw [h1] at hb
        rcases hb with hb | hb
        · obtain ⟨p', hp', e2⟩ := hrow b (by rw [← hb]; rfl)
          have := ho.sep p' hp'
          rw [e2, hgb] at this; cases this
        · simp only [Value.ownBlock, Option.some.injEq] at hb
          have := lt_of_heap (ho.ro b o hgb)
          omega
    · rw [List.mem_singleton.1 hp]
      rw [h1] at hb
      rcases hb with hb | hb
      · obtain ⟨p', hp', e2⟩ := hrow b (by rw [← hb]; rfl)
        exact .inr ⟨p', hp', e2⟩
      · simp only [Value.ownBlock, Option.some.injEq] at hb
        exact .inl (by simp only; omega)
theorem s_append {t e : TypeId} {sz bytes : Nat} {zero : List Value} {agg : Bool} (hs : P.underlying t = some (.slice e)) (ht : Ty P e sz bytes zero agg) (hz : Nat.beq zero.length sz = true) (hsz : Nat.blt 0 sz = true) {x y : Operand} {v : Value} {n m c b2 o2 : Nat} {xs news : List Value} (H : St N D w0 F G0 G (Li ++ Lo) T a w)
    (hw : Region.wanted ⟨some d, .call { callee := .builtin .append, args := #[x, y], argTypes := #[t, t] }, ty, pos, aft, g⟩ (yielded ops a.tmps) = true) (hx : ev T x = some v) (hy : ev T y = some (.slice (some ⟨b2, o2, none⟩) m c)) (hrow : IsRow e sz v n xs Lo)
    (hn : news.length = m * sz) (hc : ∀ j u, news[j]? = some u → w.cell? ⟨b2, o2 + j, none⟩ = some u) (h1 : news.all Value.oneCell' = true) (h63 : n + m ≤ maxLen) (hb : (n + m) * bytes ≤ 140737488355328) (hd : Nat.blt d N = true)
    (k : ∀ v' Lo' a' w', IsRow e sz v' (n + m) (xs ++ news) Lo' → St N D w0 F G0 G (Li ++ Lo') ((d, v') :: T) a' w' → WL r P ops Q rest a' w') :
    WL r P ops Q (⟨some d, .call { callee := .builtin .append, args := #[x, y], argTypes := #[t, t] }, ty, pos, aft, g⟩ :: rest) a w := by
  obtain ⟨i, z, hi, hi1, hi2, hi3, hi4⟩ := ht.parts
  obtain ⟨v', w2, hrun, r1, r2, _, r4⟩ := run_append_own_at (P := P) w 0 t ty e i z sz bytes hs hi hi3 hi1 hi2 (by rw [hi4]; simpa using Nat.eq_of_beq_eq_true hz) (Eq.mp Nat.blt_eq hsz) v n xs (hrow.owns H.hp) ⟨b2, o2, none⟩ m c news hn (fun j u hj => by rw [add_lit]; exact hc j u hj) (fun u hu => List.all_eq_true.1 h1 u hu) h63 hb (Nat.zero_le _)
  obtain ⟨Lo', hr, hch⟩ := change_row hrow H.hp.owns r1 r2 r4
  refine wl_value (v := v') (w' := w2) hw rfl ?_ (k v' Lo' _ w2 hr (H.put hd v' (H.hp.change hch)))
  simp [execOp, resolve, invoke, builtin, H.ev hx, H.ev hy, Sem.run_bind, hrun]
/-- An append of nothing. -/
theorem s_append0 {t e : TypeId} {sz bytes : Nat} {zero : List Value} {agg : Bool} (hs : P.underlying t = some (.slice e)) (ht : Ty P e sz bytes zero agg) {x y : Operand} {A B : Option Addr} {n c c' : Nat} (H : St N D w0 F G0 G L T a w)
    (hw : Region.wanted ⟨some d, .call { callee := .builtin .append, args := #[x, y], argTypes := #[t, t] }, ty, pos, aft, g⟩ (yielded ops a.tmps) = true) (hx : ev T x = some (.slice A n c)) (hy : ev T y = some (.slice B 0 c')) (hnc : n ≤ c) (hd : Nat.blt d N = true)
    (k : ∀ a', St N D w0 F G0 G L ((d, .slice A n c) :: T) a' w → WL r P ops Q rest a' w) :
    WL r P ops Q (⟨some d, .call { callee := .builtin .append, args := #[x, y], argTypes := #[t, t] }, ty, pos, aft, g⟩ :: rest) a w := by
  refine wl_value (v := .slice A n c) (w' := w) hw rfl ?_ (k _ (H.put hd _ H.hp))
  have h1 : ∀ w, (Builtin.firstCells sz 0 (.slice B 0 c')).run P w = .ok #[] w := by intro w; cases B <;> simp [Builtin.firstCells, loadCells, loadCellsFrom]
  have hle : n + 0 ≤ c := by omega
  cases A <;> simp [execOp, resolve, invoke, builtin, H.ev hx, H.ev hy, Sem.run_bind, Builtin.append_, run_und hs, ht.run_size, Builtin.lenOf, hnc, h1, storeCells]
theorem s_eqnil {t u : TypeId} {e : TypeId} (hs : P.underlying t = some (.slice e)) {x : Operand} {A : Option Addr} {n c : Nat} (H : St N D w0 F G0 G L T a w) (hw : Region.wanted ⟨some d, .binOp .eql t x (.const (.slice none 0 0)) u, ty, pos, aft, g⟩ (yielded ops a.tmps) = true) (hx : ev T x = some (.slice A n c)) (hd : Nat.blt d N = true)
    (k : ∀ a', St N D w0 F G0 G L ((d, .bool A.isNone) :: T) a' w → WL r P ops Q rest a' w) : WL r P ops Q (⟨some d, .binOp .eql t x (.const (.slice none 0 0)) u, ty, pos, aft, g⟩ :: rest) a w := by
  refine wl_value (v := .bool A.isNone) (w' := w) hw rfl ?_ (k _ (H.put hd _ H.hp))
  have h1 : (Op.equal t (.slice A n c) (.slice none 0 0)).run P w = .ok A.isNone w := by
    show (Op.equalIn (9999 + 1) t (.slice A n c) (.slice none 0 0)).run P w = _
    rw [Op.equalIn.eq_2, Sem.run_bind, run_und hs]
    cases A <;> rfl
  have h2 : (do eqGuard .eql t x (.const (.slice none 0 0)) (.slice A n c) (.slice none 0 0); binOp .eql t (.slice A n c) (.slice none 0 0) : Sem Value).run P w = .ok (.bool A.isNone) w := by
    have e : (do eqGuard .eql t x (.const (.slice none 0 0)) (.slice A n c) (.slice none 0 0); binOp .eql t (.slice A n c) (.slice none 0 0) : Sem Value) = (do pure (.bool (← Op.equal t (.slice A n c) (.slice none 0 0))) : Sem Value) := rfl
    rw [e, Sem.run_bind, h1]; rfl
  have e0 : execOp a.eval ⟨some d, .binOp .eql t x (.const (.slice none 0 0)) u, ty, pos, aft, g⟩ = (do pure (.value (← (do eqGuard .eql t x (.const (.slice none 0 0)) (.slice A n c) (.slice none 0 0); binOp .eql t (.slice A n c) (.slice none 0 0) : Sem Value))) : Sem Next) := by
    simp only [execOp, H.ev hx]; rfl
  rw [e0, Sem.run_bind, h2]
  rfl
theorem s_buildSlice0 {t e : TypeId} {sz bytes : Nat} {zero : List Value} {agg : Bool} (hs : P.underlying t = some (.slice e)) (ht : Ty P e sz bytes zero agg) (H : St N D w0 F G0 G L T a w) (hw : Region.wanted ⟨some d, .buildSlice t 0 #[], ty, pos, aft, g⟩ (yielded ops a.tmps) = true) (hd : Nat.blt d N = true)
    (k : ∀ b a' w', w0.heap.size ≤ b → St N D w0 F G0 G ((b, .cells #[] e (0, 0)) :: L) ((d, .slice (some ⟨b, 0, none⟩) 0 0) :: T) a' w' → WL r P ops Q rest a' w') : WL r P ops Q (⟨some d, .buildSlice t 0 #[], ty, pos, aft, g⟩ :: rest) a w := by
  refine wl_value (v := .slice (some ⟨w.heap.size, 0, none⟩) 0 0) (w' := w.alloc (.cells #[] e (0, 0))) hw rfl ?_ (k _ _ _ H.hp.size (H.put hd _ (H.hp.alloc _)))
  have h0 : ¬ (0 * sz > 2 ^ 24) := by simp
  simp [execOp, Instr.buildSlice, Sem.run_bind, run_und hs, ht.run_size, Instr.fill, newRow, newObj, Sem.run]
  congr 2
  apply Array.eq_empty_of_size_eq_zero
  simp
theorem IsRow.empty {e sz b : Nat} : IsRow e sz (.slice (some ⟨b, 0, none⟩) 0 0) 0 [] [(b, .cells #[] e (0, 0))] :=
  ⟨by simp, .inr ⟨b, 0, #[], rfl, rfl, Nat.le_refl _, by simp [maxLen], by simp, by simp⟩⟩
/-- A call of a function value that takes no block over. -/
theorem s_callv0 {x : Operand} {fv : Value} {xs : List Operand} {vs : List Value} {ts : Array TypeId} {R : Value → GH → Prop} (H : St N D w0 F G0 G L T a w) (hw : Region.wanted ⟨some d, .call { callee := .value x, args := xs.toArray, argTypes := ts }, ty, pos, aft, g⟩ (yielded ops a.tmps) = true)
    (hf : ev T x = some fv) (hx : evs T xs = some vs) (hc : CallV P fv vs w (Ret w G R)) (hd : Nat.blt d N = true)
    (k : ∀ v G' a' w', R v G' → (∀ k o, G k = some o → G' k = some o) → St N D w0 F G0 G' L ((d, v) :: T) a' w' → WL r P ops Q rest a' w') : WL r P ops Q (⟨some d, .call { callee := .value x, args := xs.toArray, argTypes := ts }, ty, pos, aft, g⟩ :: rest) a w := by
  refine wl_after (nx := _) (R := Ret w G R) hw rfl rfl ?_ ?_
  · have h1 := H.evs hx
    have e : (execOp a.eval ⟨some d, .call { callee := .value x, args := xs.toArray, argTypes := ts }, ty, pos, aft, g⟩) = (do let d ← Deferred.ofValue fv vs.toArray; invoke d.target d.args : Sem Next) := by
      simp only [execOp, resolve, H.ev hf, List.map_toArray, h1]
    rw [e]
    exact hc.go
  · rintro e w' ⟨v, G', rfl, hb, hx, hR⟩
    exact ⟨v, rfl, k v G' _ w' hR hx.1 (H.put hd v (H.hp.belowG hb hx))⟩
theorem Hp.ret_retL {R : Value → GH → Prop} {w : World} {G : GH} {e : Ending} {w' : World} (hG : Hold G w) (h : Ret w G R e w') : RetL w G [] (fun v G' L' => L' = [] ∧ R v G') e w' := by
  obtain ⟨v, G', rfl, hb, hx, hR⟩ := h
  exact ⟨v, G', [], rfl, ⟨hb.os, hb.tape, hb.output, hb.size, fun k hk _ => hb.block k hk, hx.1, fun k o hk => (hx.2.1 k o hk).imp id .inl, ⟨hx.2.2, fun _ h => (by cases h), fun _ h => (by cases h), List.Pairwise.nil⟩, fun _ h => (by cases h)⟩, rfl, hR⟩
end
/-- The cells of a row, element by element. -/
def RepCat (G : GH) (sz : Nat) (rows : List (List Dat)) (xs : List Value) : Prop :=
  ∃ css : List (List Value), xs = css.flatten ∧ css.length = rows.length ∧ ∀ (j : Nat) (r : List Dat) (cs : List Value), rows[j]? = some r → css[j]? = some cs → RepRow G r cs ∧ cs.length = sz
theorem RepCat.nil {G : GH} {sz : Nat} : RepCat G sz [] [] := ⟨[], rfl, rfl, fun j r cs h => by simp at h⟩
theorem RepCat.mono {G G' : GH} (hm : ∀ k o, G k = some o → G' k = some o) {sz : Nat} {rows : List (List Dat)} {xs : List Value} (h : RepCat G sz rows xs) : RepCat G' sz rows xs := by
  obtain ⟨css, h1, h2, h3⟩ := h
  exact ⟨css, h1, h2, fun j r cs hr hc => ⟨(h3 j r cs hr hc).1.mono hm, (h3 j r cs hr hc).2⟩⟩
theorem RepCat.snoc {G : GH} {sz : Nat} {rows : List (List Dat)} {xs : List Value} (h : RepCat G sz rows xs) {q : List Dat} {cs : List Value} (hr : RepRow G q cs) (hl : cs.length = sz) : RepCat G sz (rows ++ [q]) (xs ++ cs) := by
  obtain ⟨css, h1, h2, h3⟩ := h
  refine ⟨css ++ [cs], by simp [h1], by simp [h2], fun j r c hj hc => ?_⟩
  by_cases hlt : j < rows.length
  · rw [List.getElem?_append_left hlt] at hj
    rw [List.getElem?_append_left (by omega)] at hc
    exact h3 j r c hj hc
  · have hje : j = rows.length := by
      have := (List.getElem?_eq_some_iff.1 hj).1
      simp at this; omega
    subst hje
    rw [List.getElem?_append_right (Nat.le_refl _), Nat.sub_self] at hj
    rw [List.getElem?_append_right (by omega), h2, Nat.sub_self] at hc
    simp only [List.getElem?_cons_zero, Option.some.injEq] at hj hc
    subst hj; subst hc
    exact ⟨hr, hl⟩
theorem flatten_get {sz : Nat} : ∀ {css : List (List Value)} {j : Nat} {cs : List Value}, (∀ (j : Nat) (cs : List Value), css[j]? = some cs → cs.length = sz) → css[j]? = some cs → ∀ i, i < sz → css.flatten[j * sz + i]? = cs[i]?
  | [], _, _, _, h, _, _ => by simp at h
  | c :: css, 0, cs, hl, h, i, hi => by
    simp only [List.getElem?_cons_zero, Option.some.injEq] at h
    subst h
    have := hl 0 c rfl
    simp only [List.flatten_cons, Nat.zero_mul, Nat.zero_add]
    rw [List.getElem?_append_left (by omega)]
  | c :: css, j + 1, cs, hl, h, i, hi => by
    have hc := hl 0 c rfl
    have ih := flatten_get (css := css) (j := j) (cs := cs) (fun j cs hj => hl (j + 1) cs (by simpa using hj)) (by simpa using h) i hi
    simp only [List.flatten_cons]
    rw [List.getElem?_append_right (by rw [hc, Nat.succ_mul]; omega), ← ih]
    congr 1
    rw [hc, Nat.succ_mul]; omega
/-- All cells of rows that lie in memory. -/
theorem RepRows.cat {G : GH} {sz b : Nat} : ∀ {rows : List (List Dat)} {o : Nat}, RepRows G sz b o rows → ∃ xs : List Value, xs.length = rows.length * sz ∧ (∀ j u, xs[j]? = some u → gcell G b (o + j) = some u) ∧ xs.all Value.oneCell' = true ∧ RepCat G sz rows xs
  | [], o, _ => ⟨[], by simp, fun j u h => by simp at h, rfl, RepCat.nil⟩
  | r :: rs, o, h => by
    simp only [RepRows] at h
    obtain ⟨⟨cs, h1, h2, h3⟩, h4⟩ := h
    obtain ⟨xs, g1, g2, g3, css, g4, g5, g6⟩ := RepRows.cat h4
    refine ⟨cs ++ xs, by simp [h1, g1, Nat.succ_mul, Nat.add_comm], fun j u hj => ?_, by simp [h3.one, g3], cs :: css, by simp [g4], by simp [g5], fun j q c hj hc => ?_⟩
    · by_cases hlt : j < cs.length
      · rw [List.getElem?_append_left hlt] at hj; exact h2 j u hj
      · rw [List.getElem?_append_right (by omega)] at hj
        rw [← g2 _ u hj]; congr 1; omega
    · cases j with
      | zero => simp only [List.getElem?_cons_zero, Option.some.injEq] at hj hc; subst hj; subst hc; exact ⟨h3, h1⟩
      | succ j => exact g6 j q c (by simpa using hj) (by simpa using hc)
/-- A slice that reads as rows: nil or not; all its cells. -/
theorem RepV.cells {G : GH} {sz : Nat} {rows : List (List Dat)} {A : Option Addr} {n c : Nat} (h : RepV G (.sl sz rows) (.slice A n c)) : n = rows.length ∧ n ≤ c ∧ c ≤ maxLen ∧ (A = none → rows = []) ∧
    (rows ≠ [] → ∃ b o xs, A = some ⟨b, o, none⟩ ∧ xs.length = n * sz ∧ (∀ j u, xs[j]? = some u → gcell G b (o + j) = some u) ∧ xs.all Value.oneCell' = true ∧ RepCat G sz rows xs) := by
  simp only [RepV] at h
  obtain ⟨A', c', h1, h2, h3, h4⟩ := h
  injection h1 with e1 e2 e3
  subst e1; subst e2; subst e3
  refine ⟨rfl, h2, h3, fun hn => ?_, fun hne => ?_⟩
  · apply Classical.byContradiction
    intro hne
    obtain ⟨b, o, e, _⟩ := h4 hne
    rw [hn] at e; cases e
  · obtain ⟨b, o, e, hr⟩ := h4 hne
    obtain ⟨xs, g1, g2, g3, g4⟩ := hr.cat
    exact ⟨b, o, xs, e, g1, g2, g3, g4⟩
theorem RepV.nil_ {G : GH} {sz : Nat} {A : Option Addr} {n c : Nat} (h : n = 0) (hc : c ≤ maxLen) : RepV G (.sl sz []) (.slice A n c) := by
  subst h
  simp only [RepV]
  exact ⟨A, c, rfl, Nat.zero_le _, hc, fun h => absurd rfl h⟩
/-- A row whose block is read alone reads as its elements. -/
theorem RepV.of_row {G : GH} {e sz n b cap : Nat} {cur : Array Value} {xs : List Value} {rows : List (List Dat)} (hb : G b = some (.cells cur e (0, 0))) (hl : rows.length = n) (hc : n ≤ cap) (hm : cap ≤ maxLen) (ht : cur.toList.take (n * sz) = xs) (hcat : RepCat G sz rows xs) :
    RepV G (.sl sz rows) (.slice (some ⟨b, 0, none⟩) n cap) := by
  obtain ⟨css, h1, h2, h3⟩ := hcat
  simp only [RepV]
  refine ⟨_, cap, by rw [hl], by omega, hm, fun _ => ⟨b, 0, rfl, RepRows.mk fun k q hk => ?_⟩⟩
  have hkl : k < css.length := by rw [h2]; exact (List.getElem?_eq_some_iff.1 hk).1
  have hcs : css[k]? = some css[k] := List.getElem?_eq_getElem hkl
  obtain ⟨g1, g2⟩ := h3 k q _ hk hcs
  refine ⟨css[k], g2, fun j u hj => ?_, g1⟩
  have hjs : j < sz := by rw [← g2]; exact (List.getElem?_eq_some_iff.1 hj).1
  have hlen : ∀ (j : Nat) (cs : List Value), css[j]? = some cs → cs.length = sz := by
    intro j cs hj
    have hjl : j < rows.length := by rw [← h2]; exact (List.getElem?_eq_some_iff.1 hj).1
    exact (h3 j _ cs (List.getElem?_eq_getElem hjl) hj).2
  have hf := flatten_get hlen hcs j hjs
  rw [← h1, ← ht, hj] at hf
  unfold gcell
  rw [hb]
  simp only
  have hlt : k * sz + j < n * sz := by
    have : (k + 1) * sz ≤ n * sz := Nat.mul_le_mul_right _ (by omega)
    rw [Nat.succ_mul] at this; omega
  rw [List.getElem?_take, if_pos hlt] at hf
  simpa using hf
/-- What the call built is given up. -/
theorem St.giveRow {N : Nat} {D : List Deferred} {w0 : World} {F : Nat → Prop} {G0 G : GH} {Li Lo : OL} {T : List (Nat × Value)} {a : Act} {w : World} {e sz n : Nat} {v : Value} {xs : List Value} {rows : List (List Dat)} (H : St N D w0 F G0 G (Li ++ Lo) T a w)
    (hrow : IsRow e sz v n xs Lo) (hl : rows.length = n) (hcat : RepCat G sz rows xs) : ∃ G', (∀ k o, G k = some o → G' k = some o) ∧ RepV G' (.sl sz rows) v ∧ St N D w0 F G0 G' Li T a w := by
  rcases hrow.2 with ⟨rfl, h2, rfl⟩ | ⟨b, cap, cur, rfl, rfl, h3, h4, h5, h6⟩
  · refine ⟨G, fun _ _ h => h, ?_, by simpa using H⟩
    have : rows = [] := List.eq_nil_of_length_eq_zero (by omega)
    subst this
    simp only [RepV]
    exact ⟨none, 0, by simp, by simp, by simp [maxLen], fun h => absurd rfl h⟩
  · have hi : (Li ++ [(b, Obj.cells cur e (0, 0))])[Li.length]? = some (b, .cells cur e (0, 0)) := by simp
    have hn := H.gnone _ hi
    have hm : ∀ k o, G k = some o → (G.add b (.cells cur e (0, 0))) k = some o := fun k o h => GH.add_mono G hn k o h
    refine ⟨_, hm, RepV.of_row (GH.add_self G b _) hl h3 h4 h6 (hcat.mono hm), ?_⟩
    have := H.giveUp _ hi
    rwa [List.eraseIdx_append_of_length_le (Nat.le_refl _), Nat.sub_self, List.eraseIdx_zero, List.tail_cons, List.append_nil] at this
/-- The block at the head is given up: it is read, and never turned again. -/
theorem St.giveBox {N : Nat} {D : List Deferred} {w0 : World} {F : Nat → Prop} {G0 G : GH} {L : OL} {T : List (Nat × Value)} {a : Act} {w : World} {b : Nat} {o : Obj} (H : St N D w0 F G0 G ((b, o) :: L) T a w) :
    ∃ G', (∀ k o, G k = some o → G' k = some o) ∧ G' b = some o ∧ St N D w0 F G0 G' L T a w :=
  ⟨G.add b o, GH.add_mono G (H.gnone 0 rfl), GH.add_self G b o, H.giveUp 0 rfl⟩
/-- A slice of one element is given up. -/
theorem St.giveOne {N : Nat} {D : List Deferred} {w0 : World} {F : Nat → Prop} {G0 G : GH} {L : OL} {T : List (Nat × Value)} {a : Act} {w : World} {b e sz : Nat} {cs : List Value} {d : List Dat} (H : St N D w0 F G0 G ((b, .cells cs.toArray e (0, 0)) :: L) T a w) (hl : cs.length = sz) (hr : RepRow G d cs) :
    ∃ G', (∀ k o, G k = some o → G' k = some o) ∧ RepV G' (.sl sz [d]) (.slice (some ⟨b, 0, none⟩) 1 1) ∧ St N D w0 F G0 G' L T a w := by
  obtain ⟨G', hm, hb, H⟩ := H.giveBox
  exact ⟨G', hm, RepV.of_row (xs := cs) hb rfl (Nat.le_refl _) (by decide) (by simp [← hl]) (by simpa using (RepCat.nil (sz := sz)).snoc (hr.mono hm) hl), H⟩
/-- How far a walk over a list of calls has come: it stands at j, A is left, je is the end. -/
structure Now {α : Type} (xs : List AP) (P : α → AP) (J : Nat → GH → OL → Prop) (je j : Nat) (A : List α) (g : GH) (L : OL) : Prop where
  now : J j g L
  rem : ∀ i a, A[i]? = some a → xs[j + i]? = some (P a)
  len : j + A.length = je
theorem Now.head {α : Type} {xs : List AP} {P : α → AP} {J : Nat → GH → OL → Prop} {je j : Nat} {x : α} {A : List α} {g : GH} {L : OL} (h : Now xs P J je j (x :: A) g L) : xs[j]? = some (P x) := h.rem 0 x rfl
theorem Now.step {α : Type} {xs : List AP} {P : α → AP} {J : Nat → GH → OL → Prop} {je j : Nat} {x : α} {A : List α} {g g' : GH} {L L' : OL} (h : Now xs P J je j (x :: A) g L) (hJ : J (j + 1) g' L') : Now xs P J je (j + 1) A g' L' :=
  ⟨hJ, fun i a hi => by rw [show j + 1 + i = j + (i + 1) by omega]; exact h.rem (i + 1) a (by simpa using hi), by have := h.len; simp only [List.length_cons] at this; omega⟩
theorem Now.part {α : Type} {xs : List AP} {P : α → AP} {J : Nat → GH → OL → Prop} {je j : Nat} {A B : List α} {g : GH} {L : OL} (h : Now xs P J je j (A ++ B) g L) : ∀ i a, A[i]? = some a → xs[j + i]? = some (P a) := fun i a hi => h.rem i a (by rw [List.getElem?_append_left (List.getElem?_eq_some_iff.1 hi).1]; exact hi)
theorem Now.jump {α : Type} {xs : List AP} {P : α → AP} {J : Nat → GH → OL → Prop} {je j : Nat} {A B : List α} {g g' : GH} {L L' : OL} (h : Now xs P J je j (A ++ B) g L) (hJ : J (j + A.length) g' L') : Now xs P J je (j + A.length) B g' L' :=
  ⟨hJ, fun i a hi => by rw [Nat.add_assoc]; exact h.rem (A.length + i) a (by rw [List.getElem?_append_right (Nat.le_add_right _ _), Nat.add_sub_cancel_left]; exact hi), by have := h.len; simp only [List.length_append] at this; omega⟩
theorem Hp.retD {R : Value → GH → OL → Prop} {v : Value} {w0 w : World} {G0 G : GH} {L0 L L' : OL} (h : Hp w0 (Fr w0 L0) G0 G L w) (hs : L'.Sublist L) (hR : R v G L') : RetL w0 G0 L0 R (.returned v) w := (h.drop hs).retL hR
section
variable {N : Nat} {D : List Deferred} {w0 : World} {F : Nat → Prop} {G0 G : GH} {L Li Lo : OL} {T : List (Nat × Value)}
variable {r : Option Nat} {P : Program} {ops : Array Oper} {Q : Exit → Act → World → Prop} {rest : List Oper} {a : Act} {w : World}
variable {d : Nat} {ty : TypeId} {pos : String} {aft : Array Edge} {g : Option (Nat × Bool)}
/-- An append of what reads as rows. -/
theorem s_appendG {t e : TypeId} {sz bytes : Nat} {zero : List Value} {agg : Bool} (hs : P.underlying t = some (.slice e)) (ht : Ty P e sz bytes zero agg) (hz : Nat.beq zero.length sz = true) (hsz : Nat.blt 0 sz = true) {x y : Operand} {v : Value} {n m c : Nat} {A : Option Addr} {xs : List Value} {rows : List (List Dat)} (H : St N D w0 F G0 G (Li ++ Lo) T a w)
    (hw : Region.wanted ⟨some d, .call { callee := .builtin .append, args := #[x, y], argTypes := #[t, t] }, ty, pos, aft, g⟩ (yielded ops a.tmps) = true) (hx : ev T x = some v) (hy : ev T y = some (.slice A m c)) (hrow : IsRow e sz v n xs Lo)
    (hrep : RepV G (.sl sz rows) (.slice A m c)) (h63 : n + m ≤ maxLen) (hb : (n + m) * bytes ≤ 140737488355328) (hd : Nat.blt d N = true)
    (k : ∀ v' Lo' news a' w', IsRow e sz v' (n + m) (xs ++ news) Lo' → RepCat G sz rows news → St N D w0 F G0 G (Li ++ Lo') ((d, v') :: T) a' w' → WL r P ops Q rest a' w') :
    WL r P ops Q (⟨some d, .call { callee := .builtin .append, args := #[x, y], argTypes := #[t, t] }, ty, pos, aft, g⟩ :: rest) a w := by
  obtain ⟨hn, hc1, hc2, hnil, hxx⟩ := hrep.cells
  by_cases hr0 : rows = []
  · have hm0 : m = 0 := by rw [hn, hr0]; rfl
    subst hm0
    obtain ⟨A', c', rfl, h1, h2⟩ := hrow.shape
    refine s_append0 hs ht H hw hx hy h1 hd fun a' H' => ?_
    exact k _ Lo [] a' w (by simpa using hrow) (by rw [hr0]; exact RepCat.nil) H'
  · obtain ⟨b, o, news, rfl, hxl, hxc, hx1, hcat⟩ := hxx hr0
    exact s_append hs ht hz hsz H hw hx hy hrow hxl (fun j u hj => H.hp.gcell (hxc j u hj)) hx1 h63 hb hd fun v' Lo' a' w' hr' H' => k v' Lo' news a' w' hr' hcat H'
/-- A slice of a slice. -/
theorem s_slice {t e : TypeId} {sz bytes : Nat} {zero : List Value} {agg : Bool} (hs : P.underlying t = some (.slice e)) (ht : Ty P e sz bytes zero agg) {x y z : Operand} {A : Option Addr} {n c : Nat} (lo hi : Nat) {p q : Int} (H : St N D w0 F G0 G L T a w)
    (hw : Region.wanted ⟨some d, .slice t x (some y) (some z) none, ty, pos, aft, g⟩ (yielded ops a.tmps) = true) (hx : ev T x = some (.slice A n c)) (hy : ev T y = some (.int .i64 p)) (hz : ev T z = some (.int .i64 q)) (hp : p = (lo : Int)) (hq : q = (hi : Int)) (h1 : lo ≤ hi) (h2 : hi ≤ c) (hd : Nat.blt d N = true)
    (k : ∀ a', St N D w0 F G0 G L ((d, .slice (if c = lo then A else A.map (·.add (lo * sz))) (hi - lo) (c - lo)) :: T) a' w → WL r P ops Q rest a' w) : WL r P ops Q (⟨some d, .slice t x (some y) (some z) none, ty, pos, aft, g⟩ :: rest) a w := by
  subst hp; subst hq
  refine wl_value (v := .slice (if c = lo then A else A.map (·.add (lo * sz))) (hi - lo) (c - lo)) (w' := w) hw rfl ?_ (k _ (H.put hd _ H.hp))
  simp [execOp, H.ev hx, H.ev hy, H.ev hz, Instr.sliceAt, Instr.slice, Instr.sliceBounds, Instr.sliceBound, Sem.run_bind, run_und hs, ht.run_size, asIntOf, h1, h2]
end
/-- A part of a slice that reads as rows. -/
theorem RepV.part {G : GH} {sz : Nat} {rows : List (List Dat)} {A : Option Addr} {n c : Nat} (h : RepV G (.sl sz rows) (.slice A n c)) (lo hi : Nat) (h1 : lo ≤ hi) (h2 : hi ≤ rows.length) :
    RepV G (.sl sz ((rows.drop lo).take (hi - lo))) (.slice (if c = lo then A else A.map (·.add (lo * sz))) (hi - lo) (c - lo)) := by
  obtain ⟨A', c', he, hc1, hc2, hg⟩ := h.slice
  injection he with e1 e2 e3
  subst e1; subst e3
  have hl : ((rows.drop lo).take (hi - lo)).length = hi - lo := by simp; omega
  simp only [RepV]
  refine ⟨_, _, by rw [hl], by rw [hl]; omega, by omega, fun hn => ?_⟩
  have hlt : lo < hi := by
    rcases Nat.lt_or_ge lo hi with h | h
    · exact h
    · exact absurd (List.eq_nil_of_length_eq_zero (by rw [hl]; omega)) hn
  obtain ⟨b, o, cs, hA, -⟩ := hg lo rows[lo] (by simp)
  subst hA
  refine ⟨b, o + lo * sz, by rw [if_neg (by omega), Option.map_some, add_lit], RepRows.mk fun k r hk => ?_⟩
  rw [List.getElem?_take] at hk
  split at hk
  · rw [List.getElem?_drop] at hk
    obtain ⟨b', o', cs, hA, g1, g2, g3⟩ := hg (lo + k) r hk
    obtain ⟨rfl, rfl⟩ : b = b' ∧ o = o' := by simpa using hA
    exact ⟨cs, g1, fun j u hj => by rw [← g2 j u hj]; congr 1; rw [Nat.add_mul]; omega, g3⟩
  · cases hk
theorem RepCat.append {G : GH} {sz : Nat} {r1 r2 : List (List Dat)} {x1 x2 : List Value} (h1 : RepCat G sz r1 x1) (h2 : RepCat G sz r2 x2) : RepCat G sz (r1 ++ r2) (x1 ++ x2) := by
  obtain ⟨c1, rfl, e1, f1⟩ := h1
  obtain ⟨c2, rfl, e2, f2⟩ := h2
  refine ⟨c1 ++ c2, by simp, by simp [e1, e2], fun j r cs hr hc => ?_⟩
  by_cases hj : j < r1.length
  · exact f1 j r cs (by rwa [List.getElem?_append_left hj] at hr) (by rwa [List.getElem?_append_left (by omega)] at hc)
  · exact f2 (j - r1.length) r cs (by rwa [List.getElem?_append_right (by omega)] at hr) (by rwa [List.getElem?_append_right (by omega), e1] at hc)
end Go.Proofs.YtpmcdlhhfbobfaaDoor
