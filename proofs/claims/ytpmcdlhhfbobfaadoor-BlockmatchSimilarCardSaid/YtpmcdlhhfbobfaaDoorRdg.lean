/-
  From what the form reads to rows in memory.
-/
import Derived.Test.YtpmcdlhhfbobfaaDoorBst
import Derived.Test.YtpmcdlhhfbobfaaDoorRows
import Derived.ProofKit
import Derived.Deep.Slices
import Derived.Laws.StructEq
namespace Go.Proofs.YtpmcdlhhfbobfaaDoor
open Go.ChangeShapes Go.RowKit Go.Deep
abbrev heapG (W : World) : GH := fun k => W.heap[k]?
theorem gcell_heap {W : World} {b o : Nat} {v : Value} (h : W.cell? ⟨b, o, none⟩ = some v) : gcell (heapG W) b o = some v := by
  unfold World.cell? at h
  unfold gcell heapG
  split at h
  · rename_i c e f hh
    simp only at hh
    rw [hh]; simpa using h
  cases h
theorem list_of {α : Type} {p : Nat → α → Prop} : ∀ n : Nat, (∀ i, i < n → ∃ x, p i x) → ∃ l : List α, l.length = n ∧ ∀ i x, l[i]? = some x → p i x
  | 0, _ => ⟨[], rfl, fun i x h => by simp at h⟩
  | n + 1, h => by
    obtain ⟨l, hl, hp⟩ := list_of n (fun i hi => h i (by omega)); obtain ⟨x, hx⟩ := h n (by omega); refine ⟨l ++ [x], by simp [hl], fun i y hy => ?_⟩
    by_cases hi : i < l.length
    · exact hp i y (by rwa [List.getElem?_append_left hi] at hy)
    rw [List.getElem?_append_right (by omega)] at hy
    have hin : i - l.length = 0 := by
      have := (List.getElem?_eq_some_iff.1 hy).1
      simp at this; omega
    rw [hin] at hy
    simp only [List.getElem?_cons_zero, Option.some.injEq] at hy
    subst hy; rw [show i = n by omega]; exact hx
theorem bulk_pos {H : Type} (d : DataW H) : 1 ≤ Rows.uptoBulk d := by
  cases d <;> (try simp only [Rows.uptoBulk]) <;> (try omega)
  rename_i x; cases x <;> simp only [Rows.uptoBulk] <;> omega
theorem bulk_rows {H ρ : Type} {dat : ρ → List Dat} : ∀ (rs : List ρ) (D : Nat → DataW H), (∀ i r, rs[i]? = some r → szR (dat r) + 1 ≤ 8 * Rows.uptoBulk (D i)) → szRs (rs.map dat) ≤ 8 * Rows.uptoBulkAll ((List.range rs.length).map D)
  | [], D, _ => Nat.zero_le _
  | r :: rs, D, h => by
    have h0 := h 0 r rfl; have hp := bulk_pos (D 0); have ih := bulk_rows rs (fun i => D (i + 1)) (fun i r hr => h (i + 1) r (by simpa using hr)); rw [List.length_cons, List.range_succ_eq_map]
    simp only [List.map_cons, List.map_map, szRs, Rows.uptoBulkAll]
    have e : (List.map (D ∘ Nat.succ) (List.range rs.length)) = (List.map (fun i => D (i + 1)) (List.range rs.length)) := rfl; rw [e]; omega
theorem bulk_mem {H : Type} {D : Nat → DataW H} : ∀ {n i : Nat}, i < n → Rows.uptoBulk (D i) ≤ Rows.uptoBulkAll ((List.range n).map D)
  | 0, i, h => absurd h (by omega)
  | n + 1, i, h => by
    have key : ∀ (l m : List (DataW H)), Rows.uptoBulkAll (l ++ m) = Rows.uptoBulkAll l + Rows.uptoBulkAll m := by
      intro l m
      induction l with
      | nil => simp [Rows.uptoBulkAll]
      | cons x l ih => simp only [List.cons_append, Rows.uptoBulkAll, ih]; omega
    rw [List.range_succ, List.map_append, key]
    by_cases hi : i < n
    · have := bulk_mem (D := D) hi; omega
    have : i = n := by omega
    subst this
    simp only [List.map_cons, List.map_nil, Rows.uptoBulkAll]; omega
section
variable {H : Type} {enc : TypeId × Value → H} {P : Program} {W : World} {base : Nat} {spare : Nat → Bool} {held : Bool}
/-- A slice whose elements read as rows. -/
theorem rd_slice {ρ : Type} {dat : ρ → List Dat} {t e : TypeId} {sz : Nat} (hsz : 0 < sz) {fuel : Nat} {cs : List Value} {x : DataW H × List MemPlace} (ht : P.underlying t = some (.slice e)) (hc : P.cellsOf e = sz) (h : DataW.trod enc P W base spare held fuel t cs = some x)
    (row : ∀ n cs' D Pl, DataW.trod enc P W base spare held n e cs' = some (D, Pl) → Rows.uptoBulk D < Rows.uptoBulk x.1 → ∃ r : ρ, RepRow (heapG W) (dat r) cs' ∧ szR (dat r) + 1 ≤ 8 * Rows.uptoBulk D) :
    ∃ (rs : List ρ) (v : Value), cs = [v] ∧ RepV (heapG W) (.sl sz (rs.map dat)) v ∧ szRs (rs.map dat) + 8 ≤ 8 * Rows.uptoBulk x.1 := by
  rcases open_slice ht h with ⟨rfl, rfl⟩ | ⟨a, len, cap, m, n, D, Pl, rfl, hb, hl, hm, hmm, rfl, hx⟩
  · exact ⟨[], _, rfl, RepV.nil_ rfl (by decide), by simp [szRs, Rows.uptoBulk]⟩
  obtain ⟨rs, hrl, hrs⟩ := list_of (p := fun i (r : ρ) => ∃ cs', W.cells? base (a.add (i * sz)) sz = some cs' ∧ RepRow (heapG W) (dat r) cs' ∧ szR (dat r) + 1 ≤ 8 * Rows.uptoBulk (D i)) len (fun i hi => by
    have him : i < m := by rw [hmm]; split <;> omega
    obtain ⟨cs', h1, h2⟩ := hx i him; rw [hc] at h1; have hb1 := bulk_mem (D := D) hi; obtain ⟨r, hr1, hr2⟩ := row n cs' (D i) (Pl i) h2 (by simp only [Rows.uptoBulk]; omega)
    exact ⟨r, cs', h1, hr1, hr2⟩)
  refine ⟨rs, _, rfl, ?_, ?_⟩
  · simp only [RepV, List.length_map]
    refine ⟨some a, cap, by rw [hrl], by omega, hm, fun hne => ?_⟩; obtain ⟨b, off, spot⟩ := a
    have hlen : 0 < rs.length := by cases rs with | nil => simp at hne | cons _ _ => simp
    obtain ⟨cs0, h1, -, -⟩ := hrs 0 rs[0] (List.getElem?_eq_getElem hlen); obtain ⟨-, hl0, hg0⟩ := World.cells?_some h1
    have hspot : spot = none := by
      have h3 := hg0 0 hsz; rw [List.getElem?_eq_getElem (by omega)] at h3
      simpa [Addr.add] using World.cell?_spot h3
    subst hspot; refine ⟨b, off, rfl, RepRows.mk fun k r hk => ?_⟩; rw [List.getElem?_map] at hk; obtain ⟨y, hy, rfl⟩ := Option.map_eq_some_iff.1 hk; obtain ⟨cs', h2, h3, -⟩ := hrs k y hy; obtain ⟨-, hl1, hg1⟩ := World.cells?_some h2; refine ⟨cs', hl1, fun j u hj => gcell_heap ?_, h3⟩
    have hj2 : j < sz := by rw [← hl1]; exact (List.getElem?_eq_some_iff.1 hj).1
    have := hg1 j hj2; rw [add_add, Go.WideShapes.add_plain] at this; rw [show off + k * sz + j = off + (k * sz + j) by omega, this]; exact hj
  have := bulk_rows rs D (fun i r hr => (hrs i r hr).choose_spec.2.2); rw [hrl] at this
  simp only [Rows.uptoBulk]; omega
end
/-- A struct's fields: their types and where they begin. -/
structure StF (P : Program) (t : TypeId) (sz : Nat) (fs : List (TypeId × Nat × Nat)) : Prop where
  und : P.underlying t = some (.struct (P.fieldsOf t))
  cells : P.cellsOf t = sz
  flds : (P.fieldsOf t).toList.map (fun f => (f.type, f.offset, P.cellsOf f.type)) = fs
theorem rd_struct {P : Program} {H : Type} {enc : TypeId × Value → H} {W : World} {base : Nat} {spare : Nat → Bool} {held : Bool} {t : TypeId} {sz fuel : Nat} {fs : List (TypeId × Nat × Nat)} {cs : List Value} {x : DataW H × List MemPlace} (hs : StF P t sz fs) (h : DataW.trod enc P W base spare held fuel t cs = some x) :
    ∃ (xs : List (DataW H × List MemPlace)) (n : Nat), x.1 = .agg (xs.map (·.1)) ∧ cs.length = sz ∧ xs.length = fs.length ∧ ∀ (i : Nat) (ti : TypeId) (off k : Nat), fs[i]? = some (ti, off, k) → DataW.trod enc P W base spare held n ti ((cs.drop off).take k) = xs[i]? := by
  obtain ⟨xs, n, -, rfl, hl, hxl, hf⟩ := DataW.trod_struct hs.und h; refine ⟨xs, n, rfl, by rw [hl, hs.cells], by rw [hxl, ← hs.flds]; simp, fun i ti off k hi => ?_⟩; rw [← hs.flds, List.getElem?_map] at hi; obtain ⟨f, hf1, hf2⟩ := Option.map_eq_some_iff.1 hi
  simp only [Prod.mk.injEq] at hf2
  obtain ⟨rfl, rfl, rfl⟩ := hf2; exact hf i f (by simpa using hf1)
section
variable {H : Type} {enc : TypeId × Value → H} {W : World} {base : Nat} {spare : Nat → Bool} {held : Bool}
theorem rd_num {n : Nat} {cs : List Value} {D : DataW H} {Pl : List MemPlace} (h : DataW.trod enc Tryd.prog W base spare held n 3 cs = some (D, Pl)) : ∃ z : Int, RepRow (heapG W) (numDat z) cs ∧ szR (numDat z) + 1 ≤ 8 * Rows.uptoBulk D := by
  obtain ⟨k, rfl, e, -⟩ := DataW.trod_int Tryd.underlying3 h; refine ⟨k, num_row _ k, ?_⟩
  have hD : D = .lit (.int .i64 k) := by simpa using congrArg Prod.fst e
  subst hD
  simp [numDat, szR, szD, Rows.uptoBulk]
theorem rd_nums {n : Nat} {cs : List Value} {D : DataW H} {Pl : List MemPlace} (h : DataW.trod enc Tryd.prog W base spare held n 32 cs = some (D, Pl)) : ∃ r : List Int, RepRow (heapG W) (rowDat r) cs ∧ szR (rowDat r) + 1 ≤ 8 * Rows.uptoBulk D := by
  obtain ⟨rs, v, rfl, h1, h2⟩ := rd_slice (sz := 1) (dat := numDat) (by decide) Tryd.underlying32 (by kernel_rfl) h (fun n cs' D Pl h _ => rd_num h); refine ⟨rs, ?_, ?_⟩
  · simp only [rowDat, RepRow]; exact ⟨_, _, rfl, h1, rfl⟩
  simp only [rowDat, szR, szD]; simp only at h2; omega
theorem rd_tab {n : Nat} {cs : List Value} {x : DataW H × List MemPlace} (h : DataW.trod enc Tryd.prog W base spare held n 23 cs = some x) : ∃ (S : List (List Int)) (v : Value), cs = [v] ∧ RepV (heapG W) (.sl 1 (S.map rowDat)) v := by
  obtain ⟨rs, v, rfl, h1, -⟩ := rd_slice (sz := 1) (dat := rowDat) (by decide) Tryd.underlying23 (by kernel_rfl) h (fun n cs' D Pl h _ => rd_nums h); exact ⟨rs, v, rfl, h1⟩
end
end Go.Proofs.YtpmcdlhhfbobfaaDoor
