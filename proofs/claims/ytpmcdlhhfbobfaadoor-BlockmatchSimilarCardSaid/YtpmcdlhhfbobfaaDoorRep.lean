/-
  Data in memory: what a value reads as; the documents' types.
-/
import Derived.Test.YtpmcdlhhfbobfaaDoorCb
namespace Go.Proofs.YtpmcdlhhfbobfaaDoor
open Go.RowKit
inductive Dat where
  | lf (v : Value)
  | sl (sz : Nat) (rows : List (List Dat))
mutual
def RepV (G : GH) : Dat → Value → Prop
  | .lf u, v => v = u ∧ Value.oneCell' u = true
  | .sl sz rows, v => ∃ A c, v = .slice A rows.length c ∧ rows.length ≤ c ∧ c ≤ maxLen ∧ (rows ≠ [] → ∃ b o, A = some ⟨b, o, none⟩ ∧ RepRows G sz b o rows)
def RepRows (G : GH) (sz b : Nat) : Nat → List (List Dat) → Prop
  | _, [] => True
  | o, r :: rs => (∃ cs, cs.length = sz ∧ (∀ j v, cs[j]? = some v → gcell G b (o + j) = some v) ∧ RepRow G r cs) ∧ RepRows G sz b (o + sz) rs
def RepRow (G : GH) : List Dat → List Value → Prop
  | [], cs => cs = []
  | d :: ds, cs => ∃ v vs, cs = v :: vs ∧ RepV G d v ∧ RepRow G ds vs
end
theorem gcell_mono {G G' : GH} (hm : ∀ k o, G k = some o → G' k = some o) {b o : Nat} {v : Value} (h : gcell G b o = some v) : gcell G' b o = some v := by
  unfold gcell at h ⊢
  cases hg : G b with
  | none => rw [hg] at h; cases h
  | some ob => rw [hg] at h; rw [hm b ob hg]; exact h
mutual
theorem RepV.mono {G G' : GH} (hm : ∀ k o, G k = some o → G' k = some o) : ∀ {d : Dat} {v : Value}, RepV G d v → RepV G' d v
  | .lf u, v, h => by simpa [RepV] using h
  | .sl sz rows, v, h => by
    simp only [RepV] at h ⊢
    obtain ⟨A, c, h1, h2, h3, h4⟩ := h
    exact ⟨A, c, h1, h2, h3, fun hn => let ⟨b, o, e, hr⟩ := h4 hn; ⟨b, o, e, RepRows.mono hm hr⟩⟩
theorem RepRows.mono {G G' : GH} (hm : ∀ k o, G k = some o → G' k = some o) {sz b : Nat} : ∀ {rows : List (List Dat)} {o : Nat}, RepRows G sz b o rows → RepRows G' sz b o rows
  | [], o, _ => by simp [RepRows]
  | r :: rs, o, h => by
    simp only [RepRows] at h ⊢
    obtain ⟨⟨cs, h1, h2, h3⟩, h4⟩ := h
    exact ⟨⟨cs, h1, fun j v hj => gcell_mono hm (h2 j v hj), RepRow.mono hm h3⟩, RepRows.mono hm h4⟩
theorem RepRow.mono {G G' : GH} (hm : ∀ k o, G k = some o → G' k = some o) : ∀ {ds : List Dat} {cs : List Value}, RepRow G ds cs → RepRow G' ds cs
  | [], cs, h => by simpa [RepRow] using h
  | d :: ds, cs, h => by
    simp only [RepRow] at h ⊢
    obtain ⟨v, vs, h1, h2, h3⟩ := h
    exact ⟨v, vs, h1, RepV.mono hm h2, RepRow.mono hm h3⟩
end
theorem RepRows.get {G : GH} {sz b : Nat} : ∀ {rows : List (List Dat)} {o k : Nat} {r : List Dat}, RepRows G sz b o rows → rows[k]? = some r → ∃ cs, cs.length = sz ∧ (∀ j v, cs[j]? = some v → gcell G b (o + k * sz + j) = some v) ∧ RepRow G r cs
  | [], _, _, _, _, h => by simp at h
  | r :: rs, o, 0, q, h, hk => by
    simp only [List.getElem?_cons_zero, Option.some.injEq] at hk
    subst hk
    simp only [RepRows] at h
    simpa using h.1
  | r :: rs, o, k + 1, q, h, hk => by
    simp only [List.getElem?_cons_succ] at hk
    simp only [RepRows] at h
    obtain ⟨cs, h1, h2, h3⟩ := RepRows.get h.2 hk
    exact ⟨cs, h1, fun j v hj => by rw [← h2 j v hj]; congr 1; rw [Nat.succ_mul]; omega, h3⟩
/-- A slice that reads as rows: its shape, and the row at an index. -/
theorem RepV.slice {G : GH} {sz : Nat} {rows : List (List Dat)} {v : Value} (h : RepV G (.sl sz rows) v) : ∃ A c, v = .slice A rows.length c ∧ rows.length ≤ c ∧ c ≤ maxLen ∧
    ∀ k r, rows[k]? = some r → ∃ b o cs, A = some ⟨b, o, none⟩ ∧ cs.length = sz ∧ (∀ j u, cs[j]? = some u → gcell G b (o + k * sz + j) = some u) ∧ RepRow G r cs := by
  simp only [RepV] at h
  obtain ⟨A, c, h1, h2, h3, h4⟩ := h
  refine ⟨A, c, h1, h2, h3, fun k r hk => ?_⟩
  obtain ⟨b, o, e, hr⟩ := h4 (by rintro rfl; simp at hk)
  obtain ⟨cs, g1, g2, g3⟩ := hr.get hk
  exact ⟨b, o, cs, e, g1, g2, g3⟩
theorem RepRows.mk {G : GH} {sz b : Nat} : ∀ {rows : List (List Dat)} {o : Nat}, (∀ k r, rows[k]? = some r → ∃ cs, cs.length = sz ∧ (∀ j u, cs[j]? = some u → gcell G b (o + k * sz + j) = some u) ∧ RepRow G r cs) → RepRows G sz b o rows
  | [], o, _ => by simp [RepRows]
  | r :: rs, o, h => by
    simp only [RepRows]
    refine ⟨by simpa using h 0 r rfl, RepRows.mk fun k q hk => ?_⟩
    obtain ⟨cs, h1, h2, h3⟩ := h (k + 1) q (by simpa using hk)
    exact ⟨cs, h1, fun j v hj => by rw [← h2 j v hj]; congr 1; rw [Nat.succ_mul]; omega, h3⟩

/-! ## The documents' types -/
abbrev vi (n : Int) : Value := .int .i64 n
structure PropD where
  key : Int
  value : Int
structure DelD where
  rev : Int
  move : Int
structure LayerD where
  rev : Int
  key : Int
  before : Int
  had : Bool
structure MarksD where
  ins : Int
  move : Int
  dels : List DelD
  layers : List LayerD
structure HeadD where
  props : List PropD
  marks : MarksD
mutual
inductive ItemD where
  | mk (kind code id : Int) (text : ByteArray) (head : HeadD) (flow : List ItemD) (rows : List RowD)
inductive RowD where
  | mk (head : HeadD) (cells : List CellD)
inductive CellD where
  | mk (id : Int) (head : HeadD) (flow : List ItemD)
end
namespace ItemD
def kind : ItemD → Int | .mk k _ _ _ _ _ _ => k
def code : ItemD → Int | .mk _ c _ _ _ _ _ => c
def id : ItemD → Int | .mk _ _ i _ _ _ _ => i
def text : ItemD → ByteArray | .mk _ _ _ t _ _ _ => t
def head : ItemD → HeadD | .mk _ _ _ _ h _ _ => h
def flow : ItemD → List ItemD | .mk _ _ _ _ _ f _ => f
def rows : ItemD → List RowD | .mk _ _ _ _ _ _ r => r
end ItemD
namespace RowD
def head : RowD → HeadD | .mk h _ => h
def cells : RowD → List CellD | .mk _ c => c
end RowD
namespace CellD
def id : CellD → Int | .mk i _ _ => i
def head : CellD → HeadD | .mk _ h _ => h
def flow : CellD → List ItemD | .mk _ _ f => f
end CellD
abbrev li (n : Int) : Dat := .lf (.int .i64 n)
def PropD.dat (p : PropD) : List Dat := [li p.key, li p.value]
def DelD.dat (p : DelD) : List Dat := [li p.rev, li p.move]
def LayerD.dat (p : LayerD) : List Dat := [li p.rev, li p.key, li p.before, .lf (.bool p.had)]
def MarksD.dat (m : MarksD) : List Dat := [li m.ins, li m.move, .sl 2 (m.dels.map DelD.dat), .sl 4 (m.layers.map LayerD.dat)]
def HeadD.dat (h : HeadD) : List Dat := .sl 2 (h.props.map PropD.dat) :: h.marks.dat
mutual
def ItemD.dat : ItemD → List Dat
  | .mk k c i t h f r => li k :: li c :: li i :: .lf (.string t) :: (h.dat ++ [.sl 11 (datItems f), .sl 6 (datRows r)])
def RowD.dat : RowD → List Dat
  | .mk h cs => h.dat ++ [.sl 7 (datCells cs)]
def CellD.dat : CellD → List Dat
  | .mk i h f => li i :: (h.dat ++ [.sl 11 (datItems f)])
def datItems : List ItemD → List (List Dat)
  | [] => []
  | x :: r => x.dat :: datItems r
def datRows : List RowD → List (List Dat)
  | [] => []
  | x :: r => x.dat :: datRows r
def datCells : List CellD → List (List Dat)
  | [] => []
  | x :: r => x.dat :: datCells r
end
theorem datItems_eq : ∀ l : List ItemD, datItems l = l.map ItemD.dat
  | [] => by simp [datItems]
  | x :: r => by simp [datItems, datItems_eq r]
theorem datRows_eq : ∀ l : List RowD, datRows l = l.map RowD.dat
  | [] => by simp [datRows]
  | x :: r => by simp [datRows, datRows_eq r]
theorem datCells_eq : ∀ l : List CellD, datCells l = l.map CellD.dat
  | [] => by simp [datCells]
  | x :: r => by simp [datCells, datCells_eq r]
theorem ItemD.dat_eq (x : ItemD) : x.dat = li x.kind :: li x.code :: li x.id :: .lf (.string x.text) :: (x.head.dat ++ [.sl 11 (x.flow.map ItemD.dat), .sl 6 (x.rows.map RowD.dat)]) := by
  cases x; simp [ItemD.dat, ItemD.kind, ItemD.code, ItemD.id, ItemD.text, ItemD.head, ItemD.flow, ItemD.rows, datItems_eq, datRows_eq]
theorem RowD.dat_eq (x : RowD) : x.dat = x.head.dat ++ [.sl 7 (x.cells.map CellD.dat)] := by
  cases x; simp [RowD.dat, RowD.head, RowD.cells, datCells_eq]
theorem CellD.dat_eq (x : CellD) : x.dat = li x.id :: (x.head.dat ++ [.sl 11 (x.flow.map ItemD.dat)]) := by
  cases x; simp [CellD.dat, CellD.id, CellD.head, CellD.flow, datItems_eq]
/-- The cells of a head, of an item, of a row, of a cell. -/
structure HeadR (G : GH) (x : HeadD) (p d l : Value) : Prop where
  props : RepV G (.sl 2 (x.props.map PropD.dat)) p
  dels : RepV G (.sl 2 (x.marks.dels.map DelD.dat)) d
  layers : RepV G (.sl 4 (x.marks.layers.map LayerD.dat)) l
theorem HeadR.mono {G G' : GH} (hm : ∀ k o, G k = some o → G' k = some o) {x : HeadD} {p d l : Value} (h : HeadR G x p d l) : HeadR G' x p d l := ⟨h.props.mono hm, h.dels.mono hm, h.layers.mono hm⟩
theorem RepV.form {G : GH} {sz : Nat} {rows : List (List Dat)} {v : Value} (h : RepV G (.sl sz rows) v) : ∃ A n c, v = .slice A n c := by
  obtain ⟨A, c, h, _⟩ := h.slice
  exact ⟨A, _, c, h⟩
theorem RepRow.item {G : GH} {x : ItemD} {cs : List Value} (h : RepRow G x.dat cs) : ∃ pA pn pc dA dn dc lA ln lc fA fn fc rA rn rc, cs = [vi x.kind, vi x.code, vi x.id, .string x.text, .slice pA pn pc, vi x.head.marks.ins, vi x.head.marks.move, .slice dA dn dc, .slice lA ln lc, .slice fA fn fc, .slice rA rn rc] ∧
    HeadR G x.head (.slice pA pn pc) (.slice dA dn dc) (.slice lA ln lc) ∧ RepV G (.sl 11 (x.flow.map ItemD.dat)) (.slice fA fn fc) ∧ RepV G (.sl 6 (x.rows.map RowD.dat)) (.slice rA rn rc) := by
  rw [ItemD.dat_eq] at h
  simp only [HeadD.dat, MarksD.dat, List.cons_append, List.nil_append, RepRow] at h
  obtain ⟨v1, _, rfl, h1, v2, _, rfl, h2, v3, _, rfl, h3, v4, _, rfl, h4, p, _, rfl, hp, v5, _, rfl, h5, v6, _, rfl, h6, d, _, rfl, hd, l, _, rfl, hl, f, _, rfl, hf, r, _, rfl, hr, rfl⟩ := h
  obtain ⟨pA, pn, pc, rfl⟩ := hp.form
  obtain ⟨dA, dn, dc, rfl⟩ := hd.form
  obtain ⟨lA, ln, lc, rfl⟩ := hl.form
  obtain ⟨fA, fn, fc, rfl⟩ := hf.form
  obtain ⟨rA, rn, rc, rfl⟩ := hr.form
  simp only [RepV] at h1 h2 h3 h4 h5 h6
  obtain ⟨rfl, -⟩ := h1; obtain ⟨rfl, -⟩ := h2; obtain ⟨rfl, -⟩ := h3; obtain ⟨rfl, -⟩ := h4; obtain ⟨rfl, -⟩ := h5; obtain ⟨rfl, -⟩ := h6
  exact ⟨pA, pn, pc, dA, dn, dc, lA, ln, lc, fA, fn, fc, rA, rn, rc, rfl, ⟨hp, hd, hl⟩, hf, hr⟩
theorem RepRow.row {G : GH} {x : RowD} {cs : List Value} (h : RepRow G x.dat cs) : ∃ pA pn pc dA dn dc lA ln lc cA cn cc, cs = [.slice pA pn pc, vi x.head.marks.ins, vi x.head.marks.move, .slice dA dn dc, .slice lA ln lc, .slice cA cn cc] ∧ HeadR G x.head (.slice pA pn pc) (.slice dA dn dc) (.slice lA ln lc) ∧ RepV G (.sl 7 (x.cells.map CellD.dat)) (.slice cA cn cc) := by
  rw [RowD.dat_eq] at h
  simp only [HeadD.dat, MarksD.dat, List.cons_append, List.nil_append, RepRow] at h
  obtain ⟨p, _, rfl, hp, v5, _, rfl, h5, v6, _, rfl, h6, d, _, rfl, hd, l, _, rfl, hl, f, _, rfl, hf, rfl⟩ := h
  obtain ⟨pA, pn, pc, rfl⟩ := hp.form
  obtain ⟨dA, dn, dc, rfl⟩ := hd.form
  obtain ⟨lA, ln, lc, rfl⟩ := hl.form
  obtain ⟨fA, fn, fc, rfl⟩ := hf.form
  simp only [RepV] at h5 h6
  obtain ⟨rfl, -⟩ := h5; obtain ⟨rfl, -⟩ := h6
  exact ⟨pA, pn, pc, dA, dn, dc, lA, ln, lc, fA, fn, fc, rfl, ⟨hp, hd, hl⟩, hf⟩
theorem RepRow.cell {G : GH} {x : CellD} {cs : List Value} (h : RepRow G x.dat cs) : ∃ pA pn pc dA dn dc lA ln lc fA fn fc, cs = [vi x.id, .slice pA pn pc, vi x.head.marks.ins, vi x.head.marks.move, .slice dA dn dc, .slice lA ln lc, .slice fA fn fc] ∧ HeadR G x.head (.slice pA pn pc) (.slice dA dn dc) (.slice lA ln lc) ∧ RepV G (.sl 11 (x.flow.map ItemD.dat)) (.slice fA fn fc) := by
  rw [CellD.dat_eq] at h
  simp only [HeadD.dat, MarksD.dat, List.cons_append, List.nil_append, RepRow] at h
  obtain ⟨v1, _, rfl, h1, p, _, rfl, hp, v5, _, rfl, h5, v6, _, rfl, h6, d, _, rfl, hd, l, _, rfl, hl, f, _, rfl, hf, rfl⟩ := h
  obtain ⟨pA, pn, pc, rfl⟩ := hp.form
  obtain ⟨dA, dn, dc, rfl⟩ := hd.form
  obtain ⟨lA, ln, lc, rfl⟩ := hl.form
  obtain ⟨fA, fn, fc, rfl⟩ := hf.form
  simp only [RepV] at h1 h5 h6
  obtain ⟨rfl, -⟩ := h1; obtain ⟨rfl, -⟩ := h5; obtain ⟨rfl, -⟩ := h6
  exact ⟨pA, pn, pc, dA, dn, dc, lA, ln, lc, fA, fn, fc, rfl, ⟨hp, hd, hl⟩, hf⟩
theorem RepV.one {G : GH} : ∀ {d : Dat} {v : Value}, RepV G d v → Value.oneCell' v = true
  | .lf u, v, h => by simp only [RepV] at h; rw [h.1]; exact h.2
  | .sl sz rows, v, h => by obtain ⟨A, n, c, rfl⟩ := h.form; rfl
theorem RepRow.one {G : GH} : ∀ {ds : List Dat} {cs : List Value}, RepRow G ds cs → cs.all Value.oneCell' = true
  | [], cs, h => by simp only [RepRow] at h; subst h; rfl
  | d :: ds, cs, h => by
    simp only [RepRow] at h
    obtain ⟨v, vs, rfl, h1, h2⟩ := h
    simp only [List.all_cons, h1.one, h2.one, Bool.and_self]
theorem RepRow.length {G : GH} : ∀ {ds : List Dat} {cs : List Value}, RepRow G ds cs → cs.length = ds.length
  | [], cs, h => by simp only [RepRow] at h; subst h; rfl
  | d :: ds, cs, h => by
    simp only [RepRow] at h
    obtain ⟨v, vs, rfl, h1, h2⟩ := h
    simp [h2.length]
/-- And back: what reads as an item. -/
theorem RepRow.mkItem {G : GH} {x : ItemD} {p d l f r : Value} (hh : HeadR G x.head p d l) (hf : RepV G (.sl 11 (x.flow.map ItemD.dat)) f) (hr : RepV G (.sl 6 (x.rows.map RowD.dat)) r) :
    RepRow G x.dat [vi x.kind, vi x.code, vi x.id, .string x.text, p, vi x.head.marks.ins, vi x.head.marks.move, d, l, f, r] := by
  rw [ItemD.dat_eq]
  simp only [HeadD.dat, MarksD.dat, List.cons_append, List.nil_append, RepRow]
  exact ⟨_, _, rfl, by simp [RepV, Value.oneCell'], _, _, rfl, by simp [RepV, Value.oneCell'], _, _, rfl, by simp [RepV, Value.oneCell'], _, _, rfl, by simp [RepV, Value.oneCell'], _, _, rfl, hh.props, _, _, rfl, by simp [RepV, Value.oneCell'], _, _, rfl, by simp [RepV, Value.oneCell'], _, _, rfl, hh.dels, _, _, rfl, hh.layers, _, _, rfl, hf, _, _, rfl, hr, rfl⟩
theorem RepRow.mkRow {G : GH} {x : RowD} {p d l c : Value} (hh : HeadR G x.head p d l) (hc : RepV G (.sl 7 (x.cells.map CellD.dat)) c) :
    RepRow G x.dat [p, vi x.head.marks.ins, vi x.head.marks.move, d, l, c] := by
  rw [RowD.dat_eq]
  simp only [HeadD.dat, MarksD.dat, List.cons_append, List.nil_append, RepRow]
  exact ⟨_, _, rfl, hh.props, _, _, rfl, by simp [RepV, Value.oneCell'], _, _, rfl, by simp [RepV, Value.oneCell'], _, _, rfl, hh.dels, _, _, rfl, hh.layers, _, _, rfl, hc, rfl⟩
theorem RepRow.mkCell {G : GH} {x : CellD} {p d l f : Value} (hh : HeadR G x.head p d l) (hf : RepV G (.sl 11 (x.flow.map ItemD.dat)) f) :
    RepRow G x.dat [vi x.id, p, vi x.head.marks.ins, vi x.head.marks.move, d, l, f] := by
  rw [CellD.dat_eq]
  simp only [HeadD.dat, MarksD.dat, List.cons_append, List.nil_append, RepRow]
  exact ⟨_, _, rfl, by simp [RepV, Value.oneCell'], _, _, rfl, hh.props, _, _, rfl, by simp [RepV, Value.oneCell'], _, _, rfl, by simp [RepV, Value.oneCell'], _, _, rfl, hh.dels, _, _, rfl, hh.layers, _, _, rfl, hf, rfl⟩
/-! ## How much there is -/
mutual
def szD : Dat → Nat
  | .lf v => (match v with | .string s => s.size | _ => 0) + 1
  | .sl _ rows => 1 + szRs rows
def szRs : List (List Dat) → Nat
  | [] => 0
  | r :: rs => 1 + szR r + szRs rs
def szR : List Dat → Nat
  | [] => 0
  | d :: ds => szD d + szR ds
end
theorem szRs_append (a b : List (List Dat)) : szRs (a ++ b) = szRs a + szRs b := by
  induction a with
  | nil => simp [szRs]
  | cons x a ih => simp only [List.cons_append, szRs, ih]; omega
theorem szR_append (a b : List Dat) : szR (a ++ b) = szR a + szR b := by
  induction a with
  | nil => simp [szR]
  | cons x a ih => simp only [List.cons_append, szR, ih]; omega
theorem szRs_length : ∀ rows : List (List Dat), rows.length ≤ szRs rows
  | [] => Nat.le_refl _
  | r :: rs => by have := szRs_length rs; simp only [List.length_cons, szRs]; omega
theorem szRs_get : ∀ {rows : List (List Dat)} {k : Nat} {r : List Dat}, rows[k]? = some r → szR r < szRs rows
  | [], _, _, h => by simp at h
  | q :: rs, 0, r, h => by simp only [List.getElem?_cons_zero, Option.some.injEq] at h; subst h; simp only [szRs]; omega
  | q :: rs, k + 1, r, h => by have := szRs_get (rows := rs) (k := k) (r := r) (by simpa using h); simp only [szRs]; omega
abbrev zItems (l : List ItemD) : Nat := szRs (l.map ItemD.dat)
abbrev zRows (l : List RowD) : Nat := szRs (l.map RowD.dat)
abbrev zCells (l : List CellD) : Nat := szRs (l.map CellD.dat)
abbrev zHead (h : HeadD) : Nat := szR h.dat
theorem zHead_eq (h : HeadD) : zHead h = szRs (h.props.map PropD.dat) + szRs (h.marks.dels.map DelD.dat) + szRs (h.marks.layers.map LayerD.dat) + 5 := by
  simp only [zHead, HeadD.dat, MarksD.dat, szR, szD]; omega
theorem zItem_eq (x : ItemD) : szR x.dat = x.text.size + zHead x.head + zItems x.flow + zRows x.rows + 6 := by
  rw [ItemD.dat_eq]; simp only [szR, szD, szR_append, zHead, zItems, zRows, zCells]; omega
theorem zRow_eq (x : RowD) : szR x.dat = zHead x.head + zCells x.cells + 1 := by
  rw [RowD.dat_eq]; simp only [szR, szD, szR_append, zHead, zItems, zRows, zCells]; omega
theorem zCell_eq (x : CellD) : szR x.dat = zHead x.head + zItems x.flow + 2 := by
  rw [CellD.dat_eq]; simp only [szR, szD, szR_append, zHead, zItems, zRows, zCells]; omega
theorem zItems_get {l : List ItemD} {k : Nat} (h : k < l.length) : l[k].text.size + zHead l[k].head + zItems l[k].flow + zRows l[k].rows + 6 < zItems l := by
  rw [← zItem_eq]; exact szRs_get (k := k) (by simp [h])
theorem zRows_get {l : List RowD} {k : Nat} (h : k < l.length) : zHead l[k].head + zCells l[k].cells + 1 < zRows l := by
  rw [← zRow_eq]; exact szRs_get (k := k) (by simp [h])
theorem zCells_get {l : List CellD} {k : Nat} (h : k < l.length) : zHead l[k].head + zItems l[k].flow + 2 < zCells l := by
  rw [← zCell_eq]; exact szRs_get (k := k) (by simp [h])
theorem zItems_length (l : List ItemD) : l.length ≤ zItems l := by have := szRs_length (l.map ItemD.dat); simpa using this
theorem zRows_length (l : List RowD) : l.length ≤ zRows l := by have := szRs_length (l.map RowD.dat); simpa using this
theorem zCells_length (l : List CellD) : l.length ≤ zCells l := by have := szRs_length (l.map CellD.dat); simpa using this
theorem szRs_mem {r : List Dat} : ∀ {rows : List (List Dat)}, r ∈ rows → szR r < szRs rows
  | [], h => by cases h
  | q :: rs, h => by
    rcases List.mem_cons.1 h with rfl | h
    · simp only [szRs]; omega
    · have := szRs_mem h; simp only [szRs]; omega
theorem zItems_mem {x : ItemD} {l : List ItemD} (h : x ∈ l) : szR x.dat < zItems l := szRs_mem (List.mem_map_of_mem h)
theorem zRows_mem {x : RowD} {l : List RowD} (h : x ∈ l) : szR x.dat < zRows l := szRs_mem (List.mem_map_of_mem h)
theorem zCells_mem {x : CellD} {l : List CellD} (h : x ∈ l) : szR x.dat < zCells l := szRs_mem (List.mem_map_of_mem h)
end Go.Proofs.YtpmcdlhhfbobfaaDoor
