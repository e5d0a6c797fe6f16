/-
  From what the form reads to documents in memory.
-/
import Derived.Test.YtbfdhlakbdadhaaRun
import Derived.ProofKit
import Derived.Deep.Slices
import Derived.Laws.StructEq
namespace Go.Proofs.Ytbfdhlakbdadhaa
open Go.ChangeShapes Go.RowKit Go.Deep
abbrev heapG (W : World) : GH := fun k => W.heap[k]?
theorem gcell_heap {W : World} {b o : Nat} {v : Value} (h : W.cell? ⟨b, o, none⟩ = some v) : gcell (heapG W) b o = some v := by
  unfold World.cell? at h
  unfold gcell heapG
  split at h
  · rename_i c e f hh
    simp only at hh
    rw [hh]; simpa using h
  · cases h
theorem list_of {α : Type} {p : Nat → α → Prop} : ∀ n : Nat, (∀ i, i < n → ∃ x, p i x) → ∃ l : List α, l.length = n ∧ ∀ i x, l[i]? = some x → p i x
  | 0, _ => ⟨[], rfl, fun i x h => by simp at h⟩
  | n + 1, h => by
    obtain ⟨l, hl, hp⟩ := list_of n (fun i hi => h i (by omega))
    obtain ⟨x, hx⟩ := h n (by omega)
    refine ⟨l ++ [x], by simp [hl], fun i y hy => ?_⟩
    by_cases hi : i < l.length
    · exact hp i y (by rwa [List.getElem?_append_left hi] at hy)
    · rw [List.getElem?_append_right (by omega)] at hy
      have hin : i - l.length = 0 := by
        have := (List.getElem?_eq_some_iff.1 hy).1
        simp at this; omega
      rw [hin] at hy
      simp only [List.getElem?_cons_zero, Option.some.injEq] at hy
      subst hy
      rw [show i = n by omega]; exact hx
theorem bulk_pos {H : Type} (d : DataW H) : 1 ≤ Rows.uptoBulk d := by
  cases d <;> (try simp only [Rows.uptoBulk]) <;> (try omega)
  rename_i x; cases x <;> simp only [Rows.uptoBulk] <;> omega
theorem bulk_rows {H ρ : Type} {dat : ρ → List Dat} : ∀ (rs : List ρ) (D : Nat → DataW H), (∀ i r, rs[i]? = some r → szR (dat r) + 1 ≤ 8 * Rows.uptoBulk (D i)) → szRs (rs.map dat) ≤ 8 * Rows.uptoBulkAll ((List.range rs.length).map D)
  | [], D, _ => Nat.zero_le _
  | r :: rs, D, h => by
    have h0 := h 0 r rfl
    have hp := bulk_pos (D 0)
    have ih := bulk_rows rs (fun i => D (i + 1)) (fun i r hr => h (i + 1) r (by simpa using hr))
    rw [List.length_cons, List.range_succ_eq_map]
    simp only [List.map_cons, List.map_map, szRs, Rows.uptoBulkAll]
    have e : (List.map (D ∘ Nat.succ) (List.range rs.length)) = (List.map (fun i => D (i + 1)) (List.range rs.length)) := rfl
    rw [e]; omega
theorem bulk_mem {H : Type} {D : Nat → DataW H} : ∀ {n i : Nat}, i < n → Rows.uptoBulk (D i) ≤ Rows.uptoBulkAll ((List.range n).map D)
  | 0, i, h => absurd h (by omega)
  | n + 1, i, h => by
    have key : ∀ (l m : List (DataW H)), Rows.uptoBulkAll (l ++ m) = Rows.uptoBulkAll l + Rows.uptoBulkAll m := by
      intro l m
      induction l with
      | nil => simp [Rows.uptoBulkAll]
      | cons x l ih => simp only [List.cons_append, Rows.uptoBulkAll, ih]; omega
    rw [List.range_succ, List.map_append, key]
    by_cases hi : i < n
    · have := bulk_mem (D := D) hi; omega
    · have : i = n := by omega
      subst this
      simp only [List.map_cons, List.map_nil, Rows.uptoBulkAll]; omega
section
variable {H : Type} {enc : TypeId × Value → H} {P : Program} {W : World} {base : Nat} {spare : Nat → Bool} {held : Bool}
/-- A slice whose elements read as rows. -/
theorem rd_slice {ρ : Type} {dat : ρ → List Dat} {t e : TypeId} {sz : Nat} (hsz : 0 < sz) {fuel : Nat} {cs : List Value} {x : DataW H × List MemPlace} (ht : P.underlying t = some (.slice e)) (hc : P.cellsOf e = sz) (h : DataW.trod enc P W base spare held fuel t cs = some x)
    (row : ∀ n cs' D Pl, DataW.trod enc P W base spare held n e cs' = some (D, Pl) → Rows.uptoBulk D < Rows.uptoBulk x.1 → ∃ r : ρ, RepRow (heapG W) (dat r) cs' ∧ szR (dat r) + 1 ≤ 8 * Rows.uptoBulk D) :
    ∃ (rs : List ρ) (v : Value), cs = [v] ∧ RepV (heapG W) (.sl sz (rs.map dat)) v ∧ szRs (rs.map dat) + 8 ≤ 8 * Rows.uptoBulk x.1 := by
  rcases open_slice ht h with ⟨rfl, rfl⟩ | ⟨a, len, cap, m, n, D, Pl, rfl, hb, hl, hm, hmm, rfl, hx⟩
  · exact ⟨[], _, rfl, RepV.nil_ rfl (by decide), by simp [szRs, Rows.uptoBulk]⟩
  obtain ⟨rs, hrl, hrs⟩ := list_of (p := fun i (r : ρ) => ∃ cs', W.cells? base (a.add (i * sz)) sz = some cs' ∧ RepRow (heapG W) (dat r) cs' ∧ szR (dat r) + 1 ≤ 8 * Rows.uptoBulk (D i)) len (fun i hi => by
    have him : i < m := by rw [hmm]; split <;> omega
    obtain ⟨cs', h1, h2⟩ := hx i him
    rw [hc] at h1
    have hb1 := bulk_mem (D := D) hi
    obtain ⟨r, hr1, hr2⟩ := row n cs' (D i) (Pl i) h2 (by simp only [Rows.uptoBulk]; omega)
    exact ⟨r, cs', h1, hr1, hr2⟩)
  refine ⟨rs, _, rfl, ?_, ?_⟩
  · simp only [RepV, List.length_map]
    refine ⟨some a, cap, by rw [hrl], by omega, hm, fun hne => ?_⟩
    obtain ⟨b, off, spot⟩ := a
    have hlen : 0 < rs.length := by cases rs with | nil => simp at hne | cons _ _ => simp
    obtain ⟨cs0, h1, -, -⟩ := hrs 0 rs[0] (List.getElem?_eq_getElem hlen)
    obtain ⟨-, hl0, hg0⟩ := World.cells?_some h1
    have hspot : spot = none := by
      have h3 := hg0 0 hsz
      rw [List.getElem?_eq_getElem (by omega)] at h3
      simpa [Addr.add] using World.cell?_spot h3
    subst hspot
    refine ⟨b, off, rfl, RepRows.mk fun k r hk => ?_⟩
    rw [List.getElem?_map] at hk
    obtain ⟨y, hy, rfl⟩ := Option.map_eq_some_iff.1 hk
    obtain ⟨cs', h2, h3, -⟩ := hrs k y hy
    obtain ⟨-, hl1, hg1⟩ := World.cells?_some h2
    refine ⟨cs', hl1, fun j u hj => gcell_heap ?_, h3⟩
    have hj2 : j < sz := by rw [← hl1]; exact (List.getElem?_eq_some_iff.1 hj).1
    have := hg1 j hj2
    rw [add_add, Go.WideShapes.add_plain] at this
    rw [show off + k * sz + j = off + (k * sz + j) by omega, this]; exact hj
  · have := bulk_rows rs D (fun i r hr => (hrs i r hr).choose_spec.2.2)
    rw [hrl] at this
    simp only [Rows.uptoBulk]; omega
end
/-- A struct's fields: their types and where they begin. -/
structure StF (P : Program) (t : TypeId) (sz : Nat) (fs : List (TypeId × Nat × Nat)) : Prop where
  und : P.underlying t = some (.struct (P.fieldsOf t))
  cells : P.cellsOf t = sz
  flds : (P.fieldsOf t).toList.map (fun f => (f.type, f.offset, P.cellsOf f.type)) = fs
theorem rd_struct {P : Program} {H : Type} {enc : TypeId × Value → H} {W : World} {base : Nat} {spare : Nat → Bool} {held : Bool} {t : TypeId} {sz fuel : Nat} {fs : List (TypeId × Nat × Nat)} {cs : List Value} {x : DataW H × List MemPlace} (hs : StF P t sz fs) (h : DataW.trod enc P W base spare held fuel t cs = some x) :
    ∃ (xs : List (DataW H × List MemPlace)) (n : Nat), x.1 = .agg (xs.map (·.1)) ∧ cs.length = sz ∧ xs.length = fs.length ∧ ∀ (i : Nat) (ti : TypeId) (off k : Nat), fs[i]? = some (ti, off, k) → DataW.trod enc P W base spare held n ti ((cs.drop off).take k) = xs[i]? := by
  obtain ⟨xs, n, -, rfl, hl, hxl, hf⟩ := DataW.trod_struct hs.und h
  refine ⟨xs, n, rfl, by rw [hl, hs.cells], by rw [hxl, ← hs.flds]; simp, fun i ti off k hi => ?_⟩
  rw [← hs.flds, List.getElem?_map] at hi
  obtain ⟨f, hf1, hf2⟩ := Option.map_eq_some_iff.1 hi
  simp only [Prod.mk.injEq] at hf2
  obtain ⟨rfl, rfl, rfl⟩ := hf2
  exact hf i f (by simpa using hf1)
section
variable {H : Type} {enc : TypeId × Value → H} {W : World} {base : Nat} {spare : Nat → Bool} {held : Bool}
theorem sfProp : StF Try.prog 113 2 [(3, 0, 1), (3, 1, 1)] := ⟨by kernel_rfl, by kernel_rfl, by kernel_rfl⟩
theorem rd_prop {n : Nat} {cs : List Value} {D : DataW H} {Pl : List MemPlace} (h : DataW.trod enc Try.prog W base spare held n 113 cs = some (D, Pl)) : ∃ r : PropD, RepRow (heapG W) r.dat cs ∧ szR r.dat + 1 ≤ 8 * Rows.uptoBulk D := by
  obtain ⟨xs, m, hx, hl, hxl, hf⟩ := rd_struct sfProp h
  match cs, hl, xs, hxl with
  | [c0, c1], _, [y0, y1], _ =>
    have h0 := hf 0 _ _ _ rfl
    have h1 := hf 1 _ _ _ rfl
    obtain ⟨k0, e0, d0, -⟩ := DataW.trod_int Try.underlying3 h0
    obtain ⟨k1, e1, d1, -⟩ := DataW.trod_int Try.underlying3 h1
    simp at e0 e1
    subst e0 e1
    simp only at hx
    refine ⟨⟨k0, k1⟩, ?_, ?_⟩
    · simp [RepRow, PropD.dat, RepV, Value.oneCell']
    · rw [hx]; simp [d0, d1, PropD.dat, szR, szD, Rows.uptoBulk, Rows.uptoBulkAll]
theorem sfDel : StF Try.prog 173 2 [(3, 0, 1), (3, 1, 1)] := ⟨by kernel_rfl, by kernel_rfl, by kernel_rfl⟩
theorem rd_del {n : Nat} {cs : List Value} {D : DataW H} {Pl : List MemPlace} (h : DataW.trod enc Try.prog W base spare held n 173 cs = some (D, Pl)) : ∃ r : DelD, RepRow (heapG W) r.dat cs ∧ szR r.dat + 1 ≤ 8 * Rows.uptoBulk D := by
  obtain ⟨xs, m, hx, hl, hxl, hf⟩ := rd_struct sfDel h
  match cs, hl, xs, hxl with
  | [c0, c1], _, [y0, y1], _ =>
    have h0 := hf 0 _ _ _ rfl
    have h1 := hf 1 _ _ _ rfl
    obtain ⟨k0, e0, d0, -⟩ := DataW.trod_int Try.underlying3 h0
    obtain ⟨k1, e1, d1, -⟩ := DataW.trod_int Try.underlying3 h1
    simp at e0 e1
    subst e0 e1
    simp only at hx
    refine ⟨⟨k0, k1⟩, ?_, ?_⟩
    · simp [RepRow, DelD.dat, RepV, Value.oneCell']
    · rw [hx]; simp [d0, d1, DelD.dat, szR, szD, Rows.uptoBulk, Rows.uptoBulkAll]
theorem sfLayer : StF Try.prog 176 4 [(3, 0, 1), (3, 1, 1), (3, 2, 1), (4, 3, 1)] := ⟨by kernel_rfl, by kernel_rfl, by kernel_rfl⟩
theorem rd_layer {n : Nat} {cs : List Value} {D : DataW H} {Pl : List MemPlace} (h : DataW.trod enc Try.prog W base spare held n 176 cs = some (D, Pl)) : ∃ r : LayerD, RepRow (heapG W) r.dat cs ∧ szR r.dat + 1 ≤ 8 * Rows.uptoBulk D := by
  obtain ⟨xs, m, hx, hl, hxl, hf⟩ := rd_struct sfLayer h
  match cs, hl, xs, hxl with
  | [c0, c1, c2, c3], _, [y0, y1, y2, y3], _ =>
    have h0 := hf 0 _ _ _ rfl
    have h1 := hf 1 _ _ _ rfl
    have h2 := hf 2 _ _ _ rfl
    have h3 := hf 3 _ _ _ rfl
    obtain ⟨k0, e0, d0, -⟩ := DataW.trod_int Try.underlying3 h0
    obtain ⟨k1, e1, d1, -⟩ := DataW.trod_int Try.underlying3 h1
    obtain ⟨k2, e2, d2, -⟩ := DataW.trod_int Try.underlying3 h2
    obtain ⟨k3, e3, d3⟩ := DataW.trod_bool Try.underlying4 h3
    simp at e0 e1 e2 e3
    subst e0 e1 e2 e3
    simp only at hx
    refine ⟨⟨k0, k1, k2, k3⟩, ?_, ?_⟩
    · simp [RepRow, LayerD.dat, RepV, Value.oneCell']
    · rw [hx]; simp [d0, d1, d2, d3, LayerD.dat, szR, szD, Rows.uptoBulk, Rows.uptoBulkAll]
theorem sfMarks : StF Try.prog 42 4 [(3, 0, 1), (3, 1, 1), (39, 2, 1), (40, 3, 1)] := ⟨by kernel_rfl, by kernel_rfl, by kernel_rfl⟩
theorem sfHead : StF Try.prog 44 5 [(38, 0, 1), (42, 1, 4)] := ⟨by kernel_rfl, by kernel_rfl, by kernel_rfl⟩
theorem cellsProp : Try.prog.cellsOf 113 = 2 := by kernel_rfl
theorem cellsDel : Try.prog.cellsOf 173 = 2 := by kernel_rfl
theorem cellsLayer : Try.prog.cellsOf 176 = 4 := by kernel_rfl
/-- A head among other cells. -/
theorem rd_head {n : Nat} {cs : List Value} {x : DataW H × List MemPlace} (h : DataW.trod enc Try.prog W base spare held n 44 cs = some x) : ∃ (r : HeadD) (p d l : Value), cs = [p, vi r.marks.ins, vi r.marks.move, d, l] ∧ HeadR (heapG W) r p d l ∧ zHead r + 15 ≤ 8 * Rows.uptoBulk x.1 := by
  obtain ⟨xs, m, hx, hl, hxl, hf⟩ := rd_struct sfHead h
  match cs, hl, xs, hxl with
  | [c0, c1, c2, c3, c4], _, [y0, y1], _ =>
    have h0 := hf 0 _ _ _ rfl
    have h1 := hf 1 _ _ _ rfl
    obtain ⟨ps, pv, e0, rp, sp⟩ := rd_slice (dat := PropD.dat) (sz := 2) (by omega) Try.underlying38 cellsProp h0 (fun n cs' D Pl hh _ => rd_prop hh)
    obtain ⟨zs, m2, hz, hzl, hzx, hzf⟩ := rd_struct sfMarks h1
    match zs, hzx with
    | [z0, z1, z2, z3], _ =>
      have g0 := hzf 0 _ _ _ rfl
      have g1 := hzf 1 _ _ _ rfl
      have g2 := hzf 2 _ _ _ rfl
      have g3 := hzf 3 _ _ _ rfl
      obtain ⟨k0, e1, d0, -⟩ := DataW.trod_int Try.underlying3 g0
      obtain ⟨k1, e2, d1, -⟩ := DataW.trod_int Try.underlying3 g1
      obtain ⟨ds, dv, e3, rd, sd⟩ := rd_slice (dat := DelD.dat) (sz := 2) (by omega) Try.underlying39 cellsDel g2 (fun n cs' D Pl hh _ => rd_del hh)
      obtain ⟨ls, lv, e4, rl, sl⟩ := rd_slice (dat := LayerD.dat) (sz := 4) (by omega) Try.underlying40 cellsLayer g3 (fun n cs' D Pl hh _ => rd_layer hh)
      simp at e0 e1 e2 e3 e4
      subst e0 e1 e2 e3 e4
      refine ⟨⟨ps, ⟨k0, k1, ds, ls⟩⟩, _, _, _, rfl, ⟨rp, rd, rl⟩, ?_⟩
      have hzh := zHead_eq ⟨ps, ⟨k0, k1, ds, ls⟩⟩
      simp only at hzh
      rw [hx]
      simp only [List.map_cons, List.map_nil, Rows.uptoBulk, Rows.uptoBulkAll, hz, d0, d1]
      omega
theorem sfItem : StF Try.prog 47 11 [(3, 0, 1), (3, 1, 1), (3, 2, 1), (9, 3, 1), (44, 4, 5), (28, 9, 1), (45, 10, 1)] := ⟨by kernel_rfl, by kernel_rfl, by kernel_rfl⟩
theorem sfRow : StF Try.prog 107 6 [(44, 0, 5), (105, 5, 1)] := ⟨by kernel_rfl, by kernel_rfl, by kernel_rfl⟩
theorem sfCell : StF Try.prog 104 7 [(3, 0, 1), (44, 1, 5), (28, 6, 1)] := ⟨by kernel_rfl, by kernel_rfl, by kernel_rfl⟩
theorem cellsItem : Try.prog.cellsOf 47 = 11 := by kernel_rfl
theorem cellsRow : Try.prog.cellsOf 107 = 6 := by kernel_rfl
theorem cellsCell : Try.prog.cellsOf 104 = 7 := by kernel_rfl
theorem rd_item : ∀ (N : Nat) (n : Nat) (cs : List Value) (D : DataW H) (Pl : List MemPlace), DataW.trod enc Try.prog W base spare held n 47 cs = some (D, Pl) → Rows.uptoBulk D < N → ∃ r : ItemD, RepRow (heapG W) r.dat cs ∧ szR r.dat + 1 ≤ 8 * Rows.uptoBulk D
  | 0, _, _, _, _, _, hN => absurd hN (by omega)
  | N + 1, n, cs, D, Pl, h, hN => by
    have ih := rd_item N
    obtain ⟨xs, m, hx, hl, hxl, hf⟩ := rd_struct sfItem h
    match cs, hl, xs, hxl with
    | [c0, c1, c2, c3, c4, c5, c6, c7, c8, c9, c10], _, [y0, y1, y2, y3, y4, y5, y6], _ =>
      have h0 := hf 0 _ _ _ rfl
      have h1 := hf 1 _ _ _ rfl
      have h2 := hf 2 _ _ _ rfl
      have h3 := hf 3 _ _ _ rfl
      have h4 := hf 4 _ _ _ rfl
      have h5 := hf 5 _ _ _ rfl
      have h6 := hf 6 _ _ _ rfl
      simp only at hx
      have hD : Rows.uptoBulk D = Rows.uptoBulk y0.1 + (Rows.uptoBulk y1.1 + (Rows.uptoBulk y2.1 + (Rows.uptoBulk y3.1 + (Rows.uptoBulk y4.1 + (Rows.uptoBulk y5.1 + (Rows.uptoBulk y6.1 + 0)))))) + 1 := by
        rw [hx]; simp only [List.map_cons, List.map_nil, Rows.uptoBulk, Rows.uptoBulkAll]
      obtain ⟨k0, e0, d0, -⟩ := DataW.trod_int Try.underlying3 h0
      obtain ⟨k1, e1, d1, -⟩ := DataW.trod_int Try.underlying3 h1
      obtain ⟨k2, e2, d2, -⟩ := DataW.trod_int Try.underlying3 h2
      obtain ⟨s, e3, d3, -⟩ := DataW.trod_string Try.underlying9 h3
      obtain ⟨hd, p, d, l, e4, rh, sh⟩ := rd_head h4
      obtain ⟨fl, fv, e5, rf, sf⟩ := rd_slice (dat := ItemD.dat) (sz := 11) (by omega) Try.underlying28 cellsItem h5 (fun n cs' D' Pl' hh hlt => ih n cs' D' Pl' hh (by omega))
      obtain ⟨rs, rv, e6, rr, sr⟩ := rd_slice (dat := RowD.dat) (sz := 6) (by omega) Try.underlying45 cellsRow h6 (fun n cs' D' Pl' hh hlt => by
        obtain ⟨xs, m, hx, hl, hxl, hf⟩ := rd_struct sfRow hh
        match cs', hl, xs, hxl with
        | [a0, a1, a2, a3, a4, a5], _, [w0, w1], _ =>
          have g0 := hf 0 _ _ _ rfl
          have g1 := hf 1 _ _ _ rfl
          simp only at hx
          have hD' : Rows.uptoBulk D' = Rows.uptoBulk w0.1 + (Rows.uptoBulk w1.1 + 0) + 1 := by
            rw [hx]; simp only [List.map_cons, List.map_nil, Rows.uptoBulk, Rows.uptoBulkAll]
          obtain ⟨hd2, p2, d2', l2, q0, rh2, sh2⟩ := rd_head g0
          obtain ⟨cl, cv, q1, rc, sc⟩ := rd_slice (dat := CellD.dat) (sz := 7) (by omega) Try.underlying105 cellsCell g1 (fun n cs'' D'' Pl'' hh2 hlt2 => by
            obtain ⟨xs, m, hx2, hl2, hxl2, hf2⟩ := rd_struct sfCell hh2
            match cs'', hl2, xs, hxl2 with
            | [b0, b1, b2, b3, b4, b5, b6], _, [v0, v1, v2], _ =>
              have u0 := hf2 0 _ _ _ rfl
              have u1 := hf2 1 _ _ _ rfl
              have u2 := hf2 2 _ _ _ rfl
              simp only at hx2
              have hD'' : Rows.uptoBulk D'' = Rows.uptoBulk v0.1 + (Rows.uptoBulk v1.1 + (Rows.uptoBulk v2.1 + 0)) + 1 := by
                rw [hx2]; simp only [List.map_cons, List.map_nil, Rows.uptoBulk, Rows.uptoBulkAll]
              obtain ⟨j0, t0, z0, -⟩ := DataW.trod_int Try.underlying3 u0
              obtain ⟨hd3, p3, d3', l3, t1, rh3, sh3⟩ := rd_head u1
              obtain ⟨fl3, fv3, t2, rf3, sf3⟩ := rd_slice (dat := ItemD.dat) (sz := 11) (by omega) Try.underlying28 cellsItem u2 (fun n cs3 D3 Pl3 hh3 hlt3 => ih n cs3 D3 Pl3 hh3 (by omega))
              simp at t0 t1 t2
              obtain ⟨rfl, rfl, rfl, rfl, rfl⟩ := t1
              subst t0 t2
              have hz := zCell_eq (CellD.mk j0 hd3 fl3)
              simp only [CellD.head, CellD.flow] at hz
              have bz : Rows.uptoBulk v0.1 = 1 := by rw [z0]; rfl
              exact ⟨CellD.mk j0 hd3 fl3, RepRow.mkCell (x := CellD.mk j0 hd3 fl3) rh3 rf3, by simp only [zItems] at hz; omega⟩)
          simp at q0 q1
          obtain ⟨rfl, rfl, rfl, rfl, rfl⟩ := q0
          subst q1
          have hz := zRow_eq (RowD.mk hd2 cl)
          simp only [RowD.head, RowD.cells] at hz
          exact ⟨RowD.mk hd2 cl, RepRow.mkRow (x := RowD.mk hd2 cl) rh2 rc, by simp only [zCells] at hz; omega⟩)
      simp at e0 e1 e2 e3 e4 e5 e6
      obtain ⟨rfl, rfl, rfl, rfl, rfl⟩ := e4
      subst e0 e1 e2 e3 e5 e6
      have hz := zItem_eq (ItemD.mk k0 k1 k2 s hd fl rs)
      simp only [ItemD.text, ItemD.head, ItemD.flow, ItemD.rows] at hz
      have b0 : Rows.uptoBulk y0.1 = 1 := by rw [d0]; rfl
      have b1 : Rows.uptoBulk y1.1 = 1 := by rw [d1]; rfl
      have b2 : Rows.uptoBulk y2.1 = 1 := by rw [d2]; rfl
      have b3 : Rows.uptoBulk y3.1 = s.size + 1 := by rw [d3]; show s.data.toList.length + 1 = s.data.size + 1; rw [Array.length_toList]
      exact ⟨ItemD.mk k0 k1 k2 s hd fl rs, RepRow.mkItem (x := ItemD.mk k0 k1 k2 s hd fl rs) rh rf rr, by simp only [zItems, zRows] at hz; omega⟩
/-- A flow that an argument brings. -/
theorem rd_items {n : Nat} {cs : List Value} {x : DataW H × List MemPlace} (h : DataW.trod enc Try.prog W base spare held n 28 cs = some x) : ∃ (l : List ItemD) (v : Value), cs = [v] ∧ RepV (heapG W) (.sl 11 (l.map ItemD.dat)) v ∧ zItems l + 8 ≤ 8 * Rows.uptoBulk x.1 :=
  rd_slice (dat := ItemD.dat) (sz := 11) (by omega) Try.underlying28 cellsItem h (fun n cs' D' Pl' hh _ => rd_item _ n cs' D' Pl' hh (Nat.lt_succ_self _))
end
end Go.Proofs.Ytbfdhlakbdadhaa
