/-
  What the claim stands on, part 3: Remainders, fields of struct values, ranges over strings, runes. Package property: the table of keys; halving. Package run: EqualHead; slices.Equal of properties, deletions, layers. Maps that a call owns. make of slices, max of three. The builtin clear; rows of a call's own that are read. Rows that a call builds: their cells, one at a time. Package run: Normal of at most one item that has neither rows nor a flow. Package paragraph: Blocks, At. The model of layer 14: at. The model of layer 14: sameBlocks. The model of layer 14: kinds. The model of layer 14: blocks, and what it gives. The model's blocks are the blocks; they tile the flow.
-/
import Derived.Test.YtlnhhlighgaapaaGreatPb
import Derived.Lib.OthersKept
import Derived.Laws.IdiomStrings
import Derived.Laws.Cover4
import Derived.Laws.Slices
import Derived.Laws.Strings2
import Derived.MapKept
import Derived.Laws.MakeOwn
namespace Go.Proofs.YtlnhhlighgaapaaGreat
section
open Go.RowKit
/-- A field of one cell in a struct. -/
structure VFld (P : Program) (s n off : Nat) : Prop where
  h : (match P.underlying s with | some (.struct fs) => (fs[n]?).bind fun f => ((P.underlying f.type).map (fun | .struct _ => true | .array _ _ => true | _ => false)).map fun g => (f.offset, g) | _ => none) = some (off, false)
theorem VFld.parts {P : Program} {s n off : Nat} (h : VFld P s n off) : ∃ fs fl u, P.underlying s = some (.struct fs) ∧ fs[n]? = some fl ∧ P.underlying fl.type = some u ∧ (match u with | .struct _ => true | .array _ _ => true | _ => false) = false ∧ fl.offset = off := by
  obtain ⟨h⟩ := h
  split at h
  · rename_i fs hs
    obtain ⟨fl, hf, h2⟩ := Option.bind_eq_some_iff.1 h
    obtain ⟨b, hb, h3⟩ := Option.map_eq_some_iff.1 h2
    obtain ⟨u, hu, h4⟩ := Option.map_eq_some_iff.1 hb
    simp only [Prod.mk.injEq] at h3
    refine ⟨fs, fl, u, hs, hf, hu, ?_, h3.1⟩
    rw [← h3.2, ← h4]
    cases u <;> rfl
  · cases h
/-- What a step of a range over a string gives, and where it leaves the iterator. -/
def nextV (s : ByteArray) (p : Nat) : List Value := if p < s.size then [.bool true, .int .i64 p, .int .i32 (Utf8.decode s p).1] else [.bool false]
def nextP (s : ByteArray) (p : Nat) : Nat := if p < s.size then p + (Utf8.decode s p).2 else p
/-- The code points of a string from an offset on, with their offsets. -/
def rnF (s : ByteArray) : Nat → Nat → List (Nat × Nat)
  | 0, _ => []
  | f + 1, p => if p < s.size then (p, (Utf8.decode s p).1) :: rnF s f (p + (Utf8.decode s p).2) else []
def rnS (s : ByteArray) : List (Nat × Nat) := rnF s s.size 0
section
variable {N : Nat} {D : List Deferred} {w0 : World} {F : Nat → Prop} {G0 G : GH} {L Li Lo : OL} {T : List (Nat × Value)}
variable {r : Option Nat} {P : Program} {ops : Array Oper} {Q : Exit → Act → World → Prop} {rest : List Oper} {a : Act} {w : World}
variable {d : Nat} {ty : TypeId} {pos : String} {aft : Array Edge} {g : Option (Nat × Bool)}
/-- The rest of a slice. -/
theorem s_sliceFrom {t e : TypeId} {sz bytes : Nat} {zero : List Value} {agg : Bool} (hs : P.underlying t = some (.slice e)) (ht : Ty P e sz bytes zero agg) {x y : Operand} {A : Option Addr} {n c : Nat} (lo : Nat) {p : Int} (H : St N D w0 F G0 G L T a w)
    (hw : Region.wanted ⟨some d, .slice t x (some y) none none, ty, pos, aft, g⟩ (yielded ops a.tmps) = true) (hx : ev T x = some (.slice A n c)) (hy : ev T y = some (.int .i64 p)) (hp : p = (lo : Int)) (h1 : lo ≤ n) (hd : Nat.blt d N = true)
    (k : ∀ a', St N D w0 F G0 G L ((d, .slice (if c = lo then A else A.map (·.add (lo * sz))) (n - lo) (c - lo)) :: T) a' w → WL r P ops Q rest a' w) : WL r P ops Q (⟨some d, .slice t x (some y) none none, ty, pos, aft, g⟩ :: rest) a w := by
  subst hp
  refine wl_value (v := .slice (if c = lo then A else A.map (·.add (lo * sz))) (n - lo) (c - lo)) (w' := w) hw rfl ?_ (k _ (H.put hd _ H.hp))
  simp [execOp, H.ev hx, H.ev hy, Instr.sliceAt, Instr.slice, Instr.sliceBounds, Instr.sliceBound, Sem.run_bind, run_und hs, ht.run_size, asIntOf, h1]
end
end
section
open Go.RowKit
theorem un309prk : Tryz.prog.underlying 309 = some (.slice 279) := by kernel_rfl
theorem ty279prk : Ty Tryz.prog 279 6 56 [.int .i64 0, .int .i64 0, .int .i64 0, .int .i64 0, .int .i64 0, .string ⟨#[]⟩] true := ⟨by kernel_rfl, by kernel_rfl⟩
theorem sr279prk : Srt Tryz.prog 279 [(0, 1), (1, 1), (2, 1), (3, 1), (4, 1), (5, 1)] [.int .i64 0, .int .i64 0, .int .i64 0, .int .i64 0, .int .i64 0, .string ⟨#[]⟩] := ⟨by kernel_rfl, by kernel_rfl⟩
theorem en232prk : ∀ args w, (callFunc 232 args).run Tryz.prog w = .ok (.enter 232 args) w := enters Tryz.func232 rfl (by kernel_rfl)
structure KeyD where
  num : Int
  grp : Int
  low : Int
  high : Int
  std : Int
  name : ByteArray
def KeyD.dat (x : KeyD) : List Dat := [li x.num, li x.grp, li x.low, li x.high, li x.std, .lf (.string x.name)]
def KeyD.cells (x : KeyD) : List Value := [vi x.num, vi x.grp, vi x.low, vi x.high, vi x.std, .string x.name]
def PropD.cells (x : PropD) : List Value := [vi x.key, vi x.value]
theorem key_row (G : GH) (x : KeyD) : RepRow G x.dat x.cells := by
  simp only [KeyD.dat, KeyD.cells, RepRow]
  exact ⟨_, _, rfl, by simp [RepV, Value.oneCell'], _, _, rfl, by simp [RepV, Value.oneCell'], _, _, rfl, by simp [RepV, Value.oneCell'], _, _, rfl, by simp [RepV, Value.oneCell'], _, _, rfl, by simp [RepV, Value.oneCell'], _, _, rfl, by simp [RepV, Value.oneCell'], rfl⟩
theorem key_of {G : GH} {x : KeyD} {cs : List Value} (h : RepRow G x.dat cs) : cs = x.cells := by
  simp only [KeyD.dat, RepRow, RepV] at h
  obtain ⟨v1, _, rfl, ⟨rfl, -⟩, v2, _, rfl, ⟨rfl, -⟩, v3, _, rfl, ⟨rfl, -⟩, v4, _, rfl, ⟨rfl, -⟩, v5, _, rfl, ⟨rfl, -⟩, v6, _, rfl, ⟨rfl, -⟩, rfl⟩ := h
  rfl
theorem prop_row (G : GH) (x : PropD) : RepRow G x.dat x.cells := by
  simp only [PropD.dat, PropD.cells, RepRow]
  exact ⟨_, _, rfl, by simp [RepV, Value.oneCell'], _, _, rfl, by simp [RepV, Value.oneCell'], rfl⟩
theorem prop_of {G : GH} {x : PropD} {cs : List Value} (h : RepRow G x.dat cs) : cs = x.cells := by
  simp only [PropD.dat, RepRow, RepV] at h
  obtain ⟨v1, _, rfl, ⟨rfl, -⟩, v2, _, rfl, ⟨rfl, -⟩, rfl⟩ := h
  rfl
theorem key_cat (G : GH) : ∀ (B A : List KeyD), RepCat G 6 (A.map KeyD.dat) (A.map KeyD.cells).flatten → RepCat G 6 ((A ++ B).map KeyD.dat) ((A ++ B).map KeyD.cells).flatten
  | [], A, h => by rw [List.append_nil]; exact h
  | x :: B, A, h => by
    have h2 := h.snoc (key_row G x) rfl; have h3 := key_cat G B (A ++ [x]) (by simpa using h2)
    simpa using h3
theorem keys_cat (G : GH) (A : List KeyD) : RepCat G 6 (A.map KeyD.dat) (A.map KeyD.cells).flatten := key_cat G A [] RepCat.nil
theorem key_at {G : GH} {l : List KeyD} {A : Option Addr} {n c k : Nat} (hv : RepV G (.sl 6 (l.map KeyD.dat)) (.slice A n c)) (hk : k < l.length) : ∃ b o, A = some ⟨b, o, none⟩ ∧ (∀ j u, [vi l[k].num, vi l[k].grp, vi l[k].low, vi l[k].high, vi l[k].std, .string l[k].name][j]? = some u → gcell G b (o + k * 6 + j) = some u) := by
  obtain ⟨A', c', he, _, _, hg⟩ := hv.slice
  injection he with e1 e2 e3
  subst e1; obtain ⟨b, o, cs, h1, h2, h3, h4⟩ := hg k l[k].dat (by simp [hk]); obtain rfl := key_of h4; exact ⟨b, o, h1, h3⟩
theorem prop_cat (G : GH) : ∀ (B A : List PropD), RepCat G 2 (A.map PropD.dat) (A.map PropD.cells).flatten → RepCat G 2 ((A ++ B).map PropD.dat) ((A ++ B).map PropD.cells).flatten
  | [], A, h => by rw [List.append_nil]; exact h
  | x :: B, A, h => by
    have h2 := h.snoc (prop_row G x) rfl; have h3 := prop_cat G B (A ++ [x]) (by simpa using h2)
    simpa using h3
theorem props_cat (G : GH) (A : List PropD) : RepCat G 2 (A.map PropD.dat) (A.map PropD.cells).flatten := prop_cat G A [] RepCat.nil
theorem prop_at {G : GH} {l : List PropD} {A : Option Addr} {n c k : Nat} (hv : RepV G (.sl 2 (l.map PropD.dat)) (.slice A n c)) (hk : k < l.length) : ∃ b o, A = some ⟨b, o, none⟩ ∧ (∀ j u, [vi l[k].key, vi l[k].value][j]? = some u → gcell G b (o + k * 2 + j) = some u) := by
  obtain ⟨A', c', he, _, _, hg⟩ := hv.slice
  injection he with e1 e2 e3
  subst e1; obtain ⟨b, o, cs, h1, h2, h3, h4⟩ := hg k l[k].dat (by simp [hk]); obtain rfl := prop_of h4; exact ⟨b, o, h1, h3⟩
def keyT : List KeyD := [⟨1, 1, 0, 1073741824, 0, ⟨#[99, 104, 97, 114, 97, 99, 116, 101, 114, 45, 115, 116, 121, 108, 101]⟩⟩, ⟨2, 1, 0, 1, 0, ⟨#[98, 111, 108, 100]⟩⟩, ⟨3, 1, 0, 1, 0, ⟨#[105, 116, 97, 108, 105, 99]⟩⟩, ⟨4, 1, 0, 3, 0, ⟨#[117, 110, 100, 101, 114, 108, 105, 110, 101]⟩⟩, ⟨5, 1, 2, 1638, 22, ⟨#[115, 105, 122, 101]⟩⟩, ⟨6, 1, 0, 16777215, 0, ⟨#[99, 111, 108, 111, 114]⟩⟩, ⟨7, 1, 0, 63, 0, ⟨#[102, 111, 110, 116]⟩⟩, ⟨8, 1, 0, 255, 0, ⟨#[108, 97, 110, 103, 117, 97, 103, 101]⟩⟩, ⟨9, 1, -400, 400, 0, ⟨#[114, 97, 105, 115, 101]⟩⟩, ⟨10, 1, 0, 1, 0, ⟨#[104, 105, 100, 100, 101, 110]⟩⟩, ⟨20, 2, 0, 1073741824, 0, ⟨#[112, 97, 114, 97, 103, 114, 97, 112, 104, 45, 115, 116, 121, 108, 101]⟩⟩, ⟨21, 2, 0, 3, 0, ⟨#[97, 108, 105, 103, 110]⟩⟩, ⟨22, 2, -31680, 31680, 0, ⟨#[108, 101, 102, 116]⟩⟩, ⟨23, 2, -31680, 31680, 0, ⟨#[114, 105, 103, 104, 116]⟩⟩, ⟨24, 2, -31680, 31680, 0, ⟨#[102, 105, 114, 115, 116]⟩⟩, ⟨25, 2, 0, 31680, 0, ⟨#[98, 101, 102, 111, 114, 101]⟩⟩, ⟨26, 2, 0, 31680, 0, ⟨#[97, 102, 116, 101, 114]⟩⟩, ⟨27, 2, 0, 31680, 0, ⟨#[108, 101, 97, 100, 105, 110, 103]⟩⟩, ⟨28, 2, 0, 1, 0, ⟨#[107, 101, 101, 112, 45, 110, 101, 120, 116]⟩⟩, ⟨29, 2, 0, 1, 0, ⟨#[107, 101, 101, 112, 45, 108, 105, 110, 101, 115]⟩⟩, ⟨30, 2, 0, 1, 1, ⟨#[119, 105, 100, 111, 119]⟩⟩, ⟨31, 2, 0, 1, 0, ⟨#[112, 97, 103, 101, 45, 98, 101, 102, 111, 114, 101]⟩⟩, ⟨32, 2, 0, 9, 0, ⟨#[111, 117, 116, 108, 105, 110, 101]⟩⟩, ⟨33, 2, 0, 1073741824, 0, ⟨#[108, 105, 115, 116]⟩⟩, ⟨34, 2, 1, 9, 1, ⟨#[108, 101, 118, 101, 108]⟩⟩, ⟨35, 2, 0, 32767, 0, ⟨#[114, 101, 115, 116, 97, 114, 116]⟩⟩, ⟨36, 2, 1, 31680, 720, ⟨#[116, 97, 98, 45, 115, 116, 111, 112]⟩⟩, ⟨37, 2, 0, 1, 0, ⟨#[104, 121, 112, 104, 101, 110, 97, 116, 101]⟩⟩, ⟨40, 3, 720, 31680, 12240, ⟨#[112, 97, 103, 101, 45, 119, 105, 100, 116, 104]⟩⟩, ⟨41, 3, 720, 31680, 15840, ⟨#[112, 97, 103, 101, 45, 104, 101, 105, 103, 104, 116]⟩⟩, ⟨42, 3, 0, 31680, 1440, ⟨#[116, 111, 112]⟩⟩, ⟨43, 3, 0, 31680, 1440, ⟨#[98, 111, 116, 116, 111, 109]⟩⟩, ⟨44, 3, 0, 31680, 1440, ⟨#[105, 110, 110, 101, 114]⟩⟩, ⟨45, 3, 0, 31680, 1440, ⟨#[111, 117, 116, 101, 114]⟩⟩, ⟨46, 3, 0, 32767, 0, ⟨#[102, 105, 114, 115, 116, 45, 112, 97, 103, 101]⟩⟩, ⟨47, 3, 1, 6, 1, ⟨#[112, 97, 103, 101, 45, 102, 111, 114, 109, 97, 116]⟩⟩, ⟨50, 4, 0, 1, 0, ⟨#[104, 101, 97, 100, 101, 114]⟩⟩, ⟨51, 4, 0, 1, 0, ⟨#[99, 97, 110, 116, 45, 115, 112, 108, 105, 116]⟩⟩, ⟨52, 4, 0, 31680, 0, ⟨#[114, 111, 119, 45, 104, 101, 105, 103, 104, 116]⟩⟩, ⟨60, 5, 1, 32, 1, ⟨#[99, 111, 108, 117, 109, 110, 45, 115, 112, 97, 110]⟩⟩, ⟨61, 5, 0, 2, 0, ⟨#[118, 101, 114, 116, 105, 99, 97, 108, 45, 109, 101, 114, 103, 101]⟩⟩, ⟨62, 5, 0, 31680, 0, ⟨#[99, 101, 108, 108, 45, 119, 105, 100, 116, 104]⟩⟩, ⟨63, 5, 0, 16777215, 16777215, ⟨#[115, 104, 97, 100, 101]⟩⟩, ⟨70, 6, 0, 31680, 0, ⟨#[116, 97, 98, 108, 101, 45, 119, 105, 100, 116, 104]⟩⟩, ⟨71, 6, 0, 2, 0, ⟨#[116, 97, 98, 108, 101, 45, 97, 108, 105, 103, 110]⟩⟩]
set_option maxRecDepth 20000 in
theorem ktable_spec (G : GH) (w0 : World) (hG : Hold G w0) : Calls Tryz.prog 215 #[] w0 (Ret w0 G fun u G' => RepV G' (.sl 6 (keyT.map KeyD.dat)) u) := by
  refine enter (N := 47) (T := []) (F := fun k => k < w0.heap.size) (L := []) Tryz.func215 rfl Tryz.ntmps215 rfl rfl hG (fun _ h => h) (fun _ h => by cases h) (fun _ h => by cases h) (fun _ h => by cases h) List.Pairwise.nil ?_; intro a H; refine c_seqR (fun _ hK1 => ?_); refine s_assign H wn rfl rfl ?_; clear H; intro a H; refine hK1 _ _ ?_; clear hK1; refine c_seqR (fun _ hK2 => ?_); (iterate 45 refine s_build sr279prk [_, _, _, _, _, _] H wn rfl rfl rfl rfl ?_; clear H; intro a H); refine s_buildAll un309prk ty279prk (keyT.map KeyD.cells) H wn rfl rfl rfl rfl rfl rfl rfl ?_; clear H; intro b46 a w hb46 H; refine s_assign H wn rfl rfl ?_; clear H; intro a H; refine hK2 _ _ ?_; clear hK2; refine c_ret ?_; refine (leave1 H Tryz.results215 (.cons (rv_tmp H rfl) .nil) ?_).1; obtain ⟨Gz, hmz, hbz, H⟩ := H.giveBox; exact H.hp.ret (RepV.of_row (n := 45) (cap := 45) hbz rfl (Nat.le_refl _) (show 45 ≤ maxLen by decide) (List.take_of_length_le (Nat.le_refl _)) (keys_cat _ _))
theorem isNaN_spec (G : GH) (w0 : World) (hG : Hold G w0) (x : Int) : Calls Tryz.prog 232 #[vi x] w0 (Ret w0 G fun u G' => u = .bool false ∧ G = G') := by
  refine enter (N := 6) (T := [(0, _)]) (F := fun k => k < w0.heap.size) (L := []) Tryz.func232 rfl Tryz.ntmps232 rfl rfl hG (fun _ h => h) (fun _ h => by cases h) (fun _ h => by cases h) (fun _ h => by cases h) List.Pairwise.nil ?_; intro a H; refine c_seqR (fun _ hK1 => ?_); refine s_assign H wn rfl rfl ?_; clear H; intro a H; refine hK1 _ _ ?_; clear hK1; refine c_seqR (fun _ hK2 => ?_); (iterate 2 refine s_move H wn rfl rfl ?_; clear H; intro a H); refine s_cmp H wn rfl rfl rfl rfl ?_; clear H; intro a H; refine s_assign H wn rfl rfl ?_; clear H; intro a H; refine hK2 _ _ ?_; clear hK2; refine c_ret ?_; refine (leave1 H Tryz.results232 (.cons (rv_tmp H rfl) .nil) ?_).1; exact H.hp.ret ⟨by simp, rfl⟩
theorem cmp3_val {x y z : Int} (h : (x < y ∧ z = -1) ∨ (y < x ∧ z = 1) ∨ (x = y ∧ z = 0)) : z = cmp3 x y := by
  unfold cmp3; split
  · omega
  split <;> omega
theorem compare_spec (G : GH) (w0 : World) (hG : Hold G w0) (x y : Int) : Calls Tryz.prog 218 #[vi x, vi y] w0 (Ret w0 G fun u G' => u = vi (cmp3 x y)) := by
  refine enter (N := 20) (T := [(0, _), (1, _)]) (F := fun k => k < w0.heap.size) (L := []) Tryz.func218 rfl Tryz.ntmps218 rfl rfl hG (fun _ h => h) (fun _ h => by cases h) (fun _ h => by cases h) (fun _ h => by cases h) List.Pairwise.nil ?_; intro a H; refine c_seqR (fun _ hK1 => ?_); refine s_assign H wn rfl rfl ?_; clear H; intro a H; refine hK1 _ _ ?_; clear hK1; refine c_seqR (fun _ hK2 => ?_); refine s_move H wn rfl rfl ?_; clear H; intro a H; refine s_call en232prk H wn rfl (isNaN_spec _ _ H.hp.ro x) rfl ?_; clear H; rintro v8 G8 a w ⟨rfl, -⟩ hm8 H; refine s_assign H wn rfl rfl ?_; clear H; intro a H; refine hK2 _ _ ?_; clear hK2; refine c_seqR (fun _ hK3 => ?_); refine s_move H wn rfl rfl ?_; clear H; intro a H; refine s_call en232prk H wn rfl (isNaN_spec _ _ H.hp.ro y) rfl ?_; clear H; rintro v10 G10 a w ⟨rfl, -⟩ hm10 H; refine s_assign H wn rfl rfl ?_; clear H; intro a H; refine hK3 _ _ ?_; clear hK3; refine c_seq (fun _ hK4 => ?_); refine c_seqR (fun _ hK5 => ?_); refine s_move H wn rfl rfl ?_; clear H; intro a H; refine hK5 _ _ ?_; clear hK5; refine c_cond H rfl ?_ ?_
  · intro h11
    try have p11 := of_decide_eq_true h11
    cases h11
  intro h11
  try have p11 := of_decide_eq_false h11
  refine c_skip ?_; refine hK4 _ _ ?_; clear hK4; refine c_seq (fun _ hK6 => ?_); refine c_seqR (fun _ hK7 => ?_); refine s_move H wn rfl rfl ?_; clear H; intro a H; refine hK7 _ _ ?_; clear hK7; refine c_cond H rfl ?_ ?_
  · intro h13
    try have p13 := of_decide_eq_true h13
    cases h13
  intro h13
  try have p13 := of_decide_eq_false h13
  refine c_skip ?_; refine hK6 _ _ ?_; clear hK6; refine c_seq (fun _ hK8 => ?_); refine c_seqR (fun _ hK9 => ?_); (iterate 2 refine s_move H wn rfl rfl ?_; clear H; intro a H); refine s_cmp H wn rfl rfl rfl rfl ?_; clear H; intro a H; refine hK9 _ _ ?_; clear hK9; refine c_cond H rfl ?_ ?_
  · intro h16
    try have p16 := of_decide_eq_true h16
    refine c_seqR (fun _ hK10 => ?_); refine s_assign H wn rfl rfl ?_; clear H; intro a H; refine hK10 _ _ ?_; clear hK10; refine c_ret ?_; refine (leave1 H Tryz.results218 (.cons (rv_tmp H rfl) .nil) ?_).1; exact H.hp.ret (congrArg vi (cmp3_val (by omega)))
  intro h16
  try have p16 := of_decide_eq_false h16
  refine c_skip ?_; refine hK8 _ _ ?_; clear hK8; refine c_seq (fun _ hK11 => ?_); refine c_seqR (fun _ hK12 => ?_); (iterate 2 refine s_move H wn rfl rfl ?_; clear H; intro a H); refine s_cmp H wn rfl rfl rfl rfl ?_; clear H; intro a H; refine hK12 _ _ ?_; clear hK12; refine c_cond H rfl ?_ ?_
  · intro h19
    try have p19 := of_decide_eq_true h19
    refine c_seqR (fun _ hK13 => ?_); refine s_assign H wn rfl rfl ?_; clear H; intro a H; refine hK13 _ _ ?_; clear hK13; refine c_ret ?_; refine (leave1 H Tryz.results218 (.cons (rv_tmp H rfl) .nil) ?_).1; exact H.hp.ret (congrArg vi (cmp3_val (by omega)))
  intro h19
  try have p19 := of_decide_eq_false h19
  refine c_skip ?_; refine hK11 _ _ ?_; clear hK11; refine c_seqR (fun _ hK14 => ?_); refine s_assign H wn rfl rfl ?_; clear H; intro a H; refine hK14 _ _ ?_; clear hK14; refine c_ret ?_; refine (leave1 H Tryz.results218 (.cons (rv_tmp H rfl) .nil) ?_).1; exact H.hp.ret (congrArg vi (cmp3_val (by omega)))
end
section
open Go.RowKit
theorem eqs40ehd : EqS Tryz.prog 40 [(0, false), (1, false)] := ⟨by kernel_rfl, by kernel_rfl, by kernel_rfl, by kernel_rfl, by kernel_rfl⟩
theorem eqs214ehd : EqS Tryz.prog 214 [(0, false), (1, false)] := ⟨by kernel_rfl, by kernel_rfl, by kernel_rfl, by kernel_rfl, by kernel_rfl⟩
theorem eqs217ehd : EqS Tryz.prog 217 [(0, false), (1, false), (2, false), (3, true)] := ⟨by kernel_rfl, by kernel_rfl, by kernel_rfl, by kernel_rfl, by kernel_rfl⟩
theorem en115ehd : ∀ args w, (callFunc 115 args).run Tryz.prog w = .ok (.enter 115 args) w := enters Tryz.func115 rfl (by kernel_rfl)
theorem fd29_0ehd : Fld Tryz.prog 29 0 0 := ⟨by kernel_rfl⟩
theorem fd29_1ehd : Fld Tryz.prog 29 1 1 := ⟨by kernel_rfl⟩
theorem en116ehd : ∀ args w, (callFunc 116 args).run Tryz.prog w = .ok (.enter 116 args) w := enters Tryz.func116 rfl (by kernel_rfl)
theorem en117ehd : ∀ args w, (callFunc 117 args).run Tryz.prog w = .ok (.enter 117 args) w := enters Tryz.func117 rfl (by kernel_rfl)
abbrev DelD.cells (x : DelD) : List Value := [vi x.rev, vi x.move]
abbrev LayerD.cells (x : LayerD) : List Value := [vi x.rev, vi x.key, vi x.before, .bool x.had]
theorem del_of {G : GH} {x : DelD} {cs : List Value} (h : RepRow G x.dat cs) : cs = x.cells := by
  simp only [DelD.dat, RepRow, RepV] at h
  obtain ⟨_, _, rfl, ⟨rfl, _⟩, _, _, rfl, ⟨rfl, _⟩, rfl⟩ := h
  rfl
theorem layer_of {G : GH} {x : LayerD} {cs : List Value} (h : RepRow G x.dat cs) : cs = x.cells := by
  simp only [LayerD.dat, RepRow, RepV] at h
  obtain ⟨_, _, rfl, ⟨rfl, _⟩, _, _, rfl, ⟨rfl, _⟩, _, _, rfl, ⟨rfl, _⟩, _, _, rfl, ⟨rfl, _⟩, rfl⟩ := h
  rfl
theorem PropD.eq_iff (a b : PropD) : (a.key = b.key ∧ a.value = b.value) ↔ a = b := by cases a; cases b; simp
theorem DelD.eq_iff (a b : DelD) : (a.rev = b.rev ∧ a.move = b.move) ↔ a = b := by cases a; cases b; simp
theorem LayerD.eq_iff (a b : LayerD) : (a.rev = b.rev ∧ a.key = b.key ∧ a.before = b.before ∧ a.had = b.had) ↔ a = b := by cases a; cases b; simp
instance : DecidableEq PropD := fun a b => decidable_of_iff _ (PropD.eq_iff a b)
instance : DecidableEq DelD := fun a b => decidable_of_iff _ (DelD.eq_iff a b)
instance : DecidableEq LayerD := fun a b => decidable_of_iff _ (LayerD.eq_iff a b)
theorem ne_Prop (a b : PropD) : (!([(0, false), (1, false)].all fun o => getV #[vi a.key, vi a.value] o == getV #[vi b.key, vi b.value] o)) = !decide (a = b) := by
  have h := PropD.eq_iff a b; rw [Bool.eq_iff_iff]
  simp only [Bool.not_eq_true', decide_eq_false_iff_not]
  rw [← h]
  simp [getV]
theorem ne_Del (a b : DelD) : (!([(0, false), (1, false)].all fun o => getV #[vi a.rev, vi a.move] o == getV #[vi b.rev, vi b.move] o)) = !decide (a = b) := by
  have h := DelD.eq_iff a b; rw [Bool.eq_iff_iff]
  simp only [Bool.not_eq_true', decide_eq_false_iff_not]
  rw [← h]
  simp [getV]
theorem ne_Layer (a b : LayerD) : (!([(0, false), (1, false), (2, false), (3, true)].all fun o => getV #[vi a.rev, vi a.key, vi a.before, .bool a.had] o == getV #[vi b.rev, vi b.key, vi b.before, .bool b.had] o)) = !decide (a = b) := by
  have h := LayerD.eq_iff a b; rw [Bool.eq_iff_iff]
  simp only [Bool.not_eq_true', decide_eq_false_iff_not]
  rw [← h]
  simp [getV]
theorem eqProp_spec (G : GH) (w0 : World) (hG : Hold G w0) (A B : List PropD) (v u : Value) (hv : RepV G (.sl 2 (A.map PropD.dat)) v) (hu : RepV G (.sl 2 (B.map PropD.dat)) u) :
    Calls Tryz.prog 115 #[v, u] w0 (Ret w0 G fun r G' => r = .bool (decide (A = B))) := by
  obtain ⟨vA, vc, rfl, hc1, hc2, hg⟩ := hv.slice; obtain ⟨uA, uc, rfl, hd1, hd2, hh⟩ := hu.slice; have hml : maxLen = 9223372036854775807 := rfl; (iterate 2 rw [List.length_map] at *); refine enter (N := 26) (T := [(0, _), (1, _)]) (F := fun k => k < w0.heap.size) (L := []) Tryz.func115 rfl Tryz.ntmps115 rfl rfl hG (fun _ h => h) (fun _ h => by cases h) (fun _ h => by cases h) (fun _ h => by cases h) List.Pairwise.nil ?_; intro a H; refine c_seqR (fun _ hK1 => ?_); refine s_assign H wn rfl rfl ?_; clear H; intro a H; refine hK1 _ _ ?_; clear hK1; refine c_seq (fun _ hK2 => ?_); refine c_seqR (fun _ hK3 => ?_); refine s_move H wn rfl rfl ?_; clear H; intro a H; refine s_len un25run H wn rfl rfl ?_; clear H; intro a H; refine s_move H wn rfl rfl ?_; clear H; intro a H; refine s_len un25run H wn rfl rfl ?_; clear H; intro a H; refine s_cmp H wn rfl rfl rfl rfl ?_; clear H; intro a H; refine hK3 _ _ ?_; clear hK3; refine c_cond H rfl ?_ ?_
  · intro h10
    try have p10 := of_decide_eq_true h10
    refine c_seqR (fun _ hK4 => ?_); refine s_assign H wn rfl rfl ?_; clear H; intro a H; refine hK4 _ _ ?_; clear hK4; refine c_ret ?_; refine (leave1 H Tryz.results115 (.cons (rv_tmp H rfl) .nil) ?_).1; exact H.hp.ret (congrArg Value.bool (decide_eq_false fun e => absurd (congrArg List.length e) (by omega)).symm)
  intro h10
  try have p10 := of_decide_eq_false h10
  refine c_skip ?_; refine hK2 _ _ ?_; clear hK2; refine c_seq (fun _ hK5 => ?_); refine c_seqR (fun _ hK6 => ?_); refine s_move H wn rfl rfl ?_; clear H; intro a H; refine s_len un25run H wn rfl rfl ?_; clear H; intro a H; refine s_move H wn rfl rfl ?_; clear H; intro a H; refine hK6 _ _ ?_; clear hK6; refine c_block ?_; skip; refine c_loopS (ι := Nat × GH) (Tc := [(0, _), (1, _), (12, _)]) (Lc := []) (fun (gh : Nat × GH) => [(13, vi gh.1)]) (fun (gh : Nat × GH) => []) (fun (gh : Nat × GH) => gh.2) (fun (gh : Nat × GH) => gh.1 ≤ A.length ∧ A.take gh.1 = B.take gh.1 ∧ (∀ b o, G b = some o → gh.2 b = some o)) (fun (gh : Nat × GH) => A.length - gh.1) ((0, G)) (by exact (H).sub ⟨rfl, rfl, rfl, rfl, trivial⟩) ?_ ?_
  · exact ⟨by omega, rfl, fun _ _ h => h⟩
  clear H; intro gh a w hI H; obtain ⟨k, g⟩ := gh; dsimp only at hI H; obtain ⟨hk, hsame, hgm⟩ := hI; dsimp only [List.cons_append, List.nil_append, List.append_nil] at H; refine c_seqR (fun _ hK7 => ?_); refine s_cmp H wn rfl rfl rfl rfl ?_; clear H; intro a H; refine hK7 _ _ ?_; clear hK7; refine c_seq (fun _ hK8 => ?_); refine c_cond H rfl ?_ ?_
  · intro h14
    try have p14 := of_decide_eq_true h14
    have hk2 : k < A.length := by omega
    have hk3 : k < B.length := by omega
    obtain ⟨b1, o1, cs1, rfl, hcl1, hrow1, hr1⟩ := hg k A[k].dat (by simp [hk2]); obtain rfl := prop_of hr1; obtain ⟨b2, o2, cs2, rfl, hcl2, hrow2, hr2⟩ := hh k B[k].dat (by simp [hk3]); obtain rfl := prop_of hr2; refine c_skip ?_; refine hK8 _ _ ?_; clear hK8; refine c_seq (fun _ hK9 => ?_); refine c_block ?_; refine c_seqR (fun _ hK10 => ?_); refine s_move H wn rfl rfl ?_; clear H; intro a H; refine s_assign H wn rfl rfl ?_; clear H; intro a H; refine hK10 _ _ ?_; clear hK10; refine c_seq (fun _ hK11 => ?_); refine c_drawI (hmx) [[], [], [0, 1], [0, 1, 2], [], [], [4, 5], [4, 5, 6], [0, 1, 2, 3, 4, 5, 6, 7]] [] (by kernel_rfl) (by kernel_rfl) (fun (ix_ : Nat) (v : Value) (G : GH) => match ix_ with | 0 => v = .slice (some ⟨b1, o1, none⟩) A.length vc | 1 => v = vi k | 2 => v = .pointer (some ⟨b1, o1 + k * 2, none⟩) | 3 => v = .agg A[k].cells.toArray | 4 => v = .slice (some ⟨b2, o2, none⟩) B.length uc | 5 => v = vi k | 6 => v = .pointer (some ⟨b2, o2 + k * 2, none⟩) | 7 => v = .agg B[k].cells.toArray | 8 => v = .bool (!decide (A[k] = B[k])) | _ => True) (fun _ _ _ _ _ h => h) H ?_ ?_
    · clear H; refine (allI_cons ?_ (allI_cons ?_ (allI_cons ?_ (allI_cons ?_ (allI_cons ?_ (allI_cons ?_ (allI_cons ?_ (allI_cons ?_ (allI_cons ?_ allI_nil)))))))))
      · refine opI [] rfl trivial (by kernel_rfl) (fun _ _ _ _ _ h => h) rfl rfl ?_; intro Sd_ a w G1 hG HT H fin; refine s_move H wn rfl rfl ?_; clear H; intro a H; exact fin H (fun _ _ h => h) (rfl)
      · refine opI [] rfl trivial (by kernel_rfl) (fun _ _ _ _ _ h => h) rfl rfl ?_; intro Sd_ a w G1 hG HT H fin; refine s_move H wn rfl rfl ?_; clear H; intro a H; exact fin H (fun _ _ h => h) (rfl)
      · refine opI [(0, 16, _), (1, 17, _)] rfl ⟨fun _ _ h => h, fun _ _ h => h, trivial⟩ (by kernel_rfl) (fun _ _ _ _ _ h => h) rfl rfl ?_; intro Sd_ a w G1 hG HT H fin; refine s_index un25run ty40run _ H wn rfl rfl rfl (by first | assumption | omega) rfl ?_; clear H; intro a H; exact fin H (fun _ _ h => h) (rfl)
      · refine opI [(2, 18, _)] rfl ⟨fun _ _ h => h, trivial⟩ (by kernel_rfl) (fun _ _ _ _ _ h => h) rfl rfl ?_; intro Sd_ a w G1 hG HT H fin; refine s_loada ty40run (cs := A[k].cells) H wn rfl rfl (fun j v hj => H.hp.gcell (gcell_mono hG (gcell_mono hgm (hrow1 j v hj)))) rfl ?_; clear H; intro a H; exact fin H (fun _ _ h => h) (rfl)
      · refine opI [] rfl trivial (by kernel_rfl) (fun _ _ _ _ _ h => h) rfl rfl ?_; intro Sd_ a w G1 hG HT H fin; refine s_move H wn rfl rfl ?_; clear H; intro a H; exact fin H (fun _ _ h => h) (rfl)
      · refine opI [] rfl trivial (by kernel_rfl) (fun _ _ _ _ _ h => h) rfl rfl ?_; intro Sd_ a w G1 hG HT H fin; refine s_move H wn rfl rfl ?_; clear H; intro a H; exact fin H (fun _ _ h => h) (rfl)
      · refine opI [(4, 20, _), (5, 21, _)] rfl ⟨fun _ _ h => h, fun _ _ h => h, trivial⟩ (by kernel_rfl) (fun _ _ _ _ _ h => h) rfl rfl ?_; intro Sd_ a w G1 hG HT H fin; refine s_index un25run ty40run _ H wn rfl rfl rfl (by first | assumption | omega) rfl ?_; clear H; intro a H; exact fin H (fun _ _ h => h) (rfl)
      · refine opI [(6, 22, _)] rfl ⟨fun _ _ h => h, trivial⟩ (by kernel_rfl) (fun _ _ _ _ _ h => h) rfl rfl ?_; intro Sd_ a w G1 hG HT H fin; refine s_loada ty40run (cs := B[k].cells) H wn rfl rfl (fun j v hj => H.hp.gcell (gcell_mono hG (gcell_mono hgm (hrow2 j v hj)))) rfl ?_; clear H; intro a H; exact fin H (fun _ _ h => h) (rfl)
      refine opI [(3, 19, _), (7, 23, _)] rfl ⟨fun _ _ h => h, fun _ _ h => h, trivial⟩ (by kernel_rfl) (fun _ _ _ _ _ h => h) rfl rfl ?_; intro Sd_ a w G1 hG HT H fin; refine s_eqs (.inr rfl) eqs40ehd H wn rfl rfl rfl rfl ?_; clear H; intro a H; exact fin H (fun _ _ h => h) (congrArg Value.bool (ne_Prop A[k] B[k]))
    clear H; intro a w G hGm6 H hv; obtain ⟨u24, hu24, hp24⟩ := hv 8 24 (by decide) rfl; obtain rfl : u24 = .bool (!decide (A[k] = B[k])) := hp24; have H := H.addS hu24; clear hv; refine wl_nil ⟨rfl, ?_⟩; refine hK11 _ _ ?_; clear hK11; refine c_cond H rfl ?_ ?_
    · intro h24
      try have p24 := of_decide_eq_true h24
      refine c_seqR (fun _ hK12 => ?_); refine s_assign H wn rfl rfl ?_; clear H; intro a H; refine hK12 _ _ ?_; clear hK12; refine c_ret ?_; refine (leave1 H Tryz.results115 (.cons (rv_tmp H rfl) .nil) ?_).1; exact H.hp.ret (congrArg Value.bool (decide_eq_false fun e => absurd h24 (by subst e; simp)).symm)
    intro h24
    try have p24 := of_decide_eq_false h24
    have hsm : A[k] = B[k] := by simpa using h24
    refine c_skip ?_; refine hK9 _ _ ?_; clear hK9; refine c_region ?_; refine s_add _ H wn rfl rfl rfl (by omega) (by omega) rfl ?_; clear H; intro a H; refine s_move H wn rfl rfl ?_; clear H; intro a H; refine wl_nil ?_; refine loop_end ((k + 1, G)) (by exact (H).sub ⟨rfl, rfl, rfl, rfl, trivial⟩) ?_ ?_
    · (try dsimp only); exact ⟨by omega, by rw [List.take_succ_eq_append_getElem hk2, List.take_succ_eq_append_getElem hk3, hsame, hsm], fun b o h => hGm6 b o (hgm b o h)⟩
    first | omega | (dsimp only; omega)
  intro h14
  try have p14 := of_decide_eq_false h14
  refine c_exit ?_; refine hK5 _ _ ?_; clear hK5; refine c_seqR (fun _ hK13 => ?_); refine s_assign H wn rfl rfl ?_; clear H; intro a H; refine hK13 _ _ ?_; clear hK13; refine c_ret ?_; refine (leave1 H Tryz.results115 (.cons (rv_tmp H rfl) .nil) ?_).1; exact H.hp.ret (congrArg Value.bool (decide_eq_true (by rw [List.take_of_length_le (by omega), List.take_of_length_le (by omega)] at hsame; exact hsame)).symm)
theorem eqDel_spec (G : GH) (w0 : World) (hG : Hold G w0) (A B : List DelD) (v u : Value) (hv : RepV G (.sl 2 (A.map DelD.dat)) v) (hu : RepV G (.sl 2 (B.map DelD.dat)) u) :
    Calls Tryz.prog 116 #[v, u] w0 (Ret w0 G fun r G' => r = .bool (decide (A = B))) := by
  obtain ⟨vA, vc, rfl, hc1, hc2, hg⟩ := hv.slice; obtain ⟨uA, uc, rfl, hd1, hd2, hh⟩ := hu.slice; have hml : maxLen = 9223372036854775807 := rfl; (iterate 2 rw [List.length_map] at *); refine enter (N := 26) (T := [(0, _), (1, _)]) (F := fun k => k < w0.heap.size) (L := []) Tryz.func116 rfl Tryz.ntmps116 rfl rfl hG (fun _ h => h) (fun _ h => by cases h) (fun _ h => by cases h) (fun _ h => by cases h) List.Pairwise.nil ?_; intro a H; refine c_seqR (fun _ hK1 => ?_); refine s_assign H wn rfl rfl ?_; clear H; intro a H; refine hK1 _ _ ?_; clear hK1; refine c_seq (fun _ hK2 => ?_); refine c_seqR (fun _ hK3 => ?_); refine s_move H wn rfl rfl ?_; clear H; intro a H; refine s_len un26run H wn rfl rfl ?_; clear H; intro a H; refine s_move H wn rfl rfl ?_; clear H; intro a H; refine s_len un26run H wn rfl rfl ?_; clear H; intro a H; refine s_cmp H wn rfl rfl rfl rfl ?_; clear H; intro a H; refine hK3 _ _ ?_; clear hK3; refine c_cond H rfl ?_ ?_
  · intro h10
    try have p10 := of_decide_eq_true h10
    refine c_seqR (fun _ hK4 => ?_); refine s_assign H wn rfl rfl ?_; clear H; intro a H; refine hK4 _ _ ?_; clear hK4; refine c_ret ?_; refine (leave1 H Tryz.results116 (.cons (rv_tmp H rfl) .nil) ?_).1; exact H.hp.ret (congrArg Value.bool (decide_eq_false fun e => absurd (congrArg List.length e) (by omega)).symm)
  intro h10
  try have p10 := of_decide_eq_false h10
  refine c_skip ?_; refine hK2 _ _ ?_; clear hK2; refine c_seq (fun _ hK5 => ?_); refine c_seqR (fun _ hK6 => ?_); refine s_move H wn rfl rfl ?_; clear H; intro a H; refine s_len un26run H wn rfl rfl ?_; clear H; intro a H; refine s_move H wn rfl rfl ?_; clear H; intro a H; refine hK6 _ _ ?_; clear hK6; refine c_block ?_; skip; refine c_loopS (ι := Nat × GH) (Tc := [(0, _), (1, _), (12, _)]) (Lc := []) (fun (gh : Nat × GH) => [(13, vi gh.1)]) (fun (gh : Nat × GH) => []) (fun (gh : Nat × GH) => gh.2) (fun (gh : Nat × GH) => gh.1 ≤ A.length ∧ A.take gh.1 = B.take gh.1 ∧ (∀ b o, G b = some o → gh.2 b = some o)) (fun (gh : Nat × GH) => A.length - gh.1) ((0, G)) (by exact (H).sub ⟨rfl, rfl, rfl, rfl, trivial⟩) ?_ ?_
  · exact ⟨by omega, rfl, fun _ _ h => h⟩
  clear H; intro gh a w hI H; obtain ⟨k, g⟩ := gh; dsimp only at hI H; obtain ⟨hk, hsame, hgm⟩ := hI; dsimp only [List.cons_append, List.nil_append, List.append_nil] at H; refine c_seqR (fun _ hK7 => ?_); refine s_cmp H wn rfl rfl rfl rfl ?_; clear H; intro a H; refine hK7 _ _ ?_; clear hK7; refine c_seq (fun _ hK8 => ?_); refine c_cond H rfl ?_ ?_
  · intro h14
    try have p14 := of_decide_eq_true h14
    have hk2 : k < A.length := by omega
    have hk3 : k < B.length := by omega
    obtain ⟨b1, o1, cs1, rfl, hcl1, hrow1, hr1⟩ := hg k A[k].dat (by simp [hk2]); obtain rfl := del_of hr1; obtain ⟨b2, o2, cs2, rfl, hcl2, hrow2, hr2⟩ := hh k B[k].dat (by simp [hk3]); obtain rfl := del_of hr2; refine c_skip ?_; refine hK8 _ _ ?_; clear hK8; refine c_seq (fun _ hK9 => ?_); refine c_block ?_; refine c_seqR (fun _ hK10 => ?_); refine s_move H wn rfl rfl ?_; clear H; intro a H; refine s_assign H wn rfl rfl ?_; clear H; intro a H; refine hK10 _ _ ?_; clear hK10; refine c_seq (fun _ hK11 => ?_); refine c_drawI (hmx) [[], [], [0, 1], [0, 1, 2], [], [], [4, 5], [4, 5, 6], [0, 1, 2, 3, 4, 5, 6, 7]] [] (by kernel_rfl) (by kernel_rfl) (fun (ix_ : Nat) (v : Value) (G : GH) => match ix_ with | 0 => v = .slice (some ⟨b1, o1, none⟩) A.length vc | 1 => v = vi k | 2 => v = .pointer (some ⟨b1, o1 + k * 2, none⟩) | 3 => v = .agg A[k].cells.toArray | 4 => v = .slice (some ⟨b2, o2, none⟩) B.length uc | 5 => v = vi k | 6 => v = .pointer (some ⟨b2, o2 + k * 2, none⟩) | 7 => v = .agg B[k].cells.toArray | 8 => v = .bool (!decide (A[k] = B[k])) | _ => True) (fun _ _ _ _ _ h => h) H ?_ ?_
    · clear H; refine (allI_cons ?_ (allI_cons ?_ (allI_cons ?_ (allI_cons ?_ (allI_cons ?_ (allI_cons ?_ (allI_cons ?_ (allI_cons ?_ (allI_cons ?_ allI_nil)))))))))
      · refine opI [] rfl trivial (by kernel_rfl) (fun _ _ _ _ _ h => h) rfl rfl ?_; intro Sd_ a w G1 hG HT H fin; refine s_move H wn rfl rfl ?_; clear H; intro a H; exact fin H (fun _ _ h => h) (rfl)
      · refine opI [] rfl trivial (by kernel_rfl) (fun _ _ _ _ _ h => h) rfl rfl ?_; intro Sd_ a w G1 hG HT H fin; refine s_move H wn rfl rfl ?_; clear H; intro a H; exact fin H (fun _ _ h => h) (rfl)
      · refine opI [(0, 16, _), (1, 17, _)] rfl ⟨fun _ _ h => h, fun _ _ h => h, trivial⟩ (by kernel_rfl) (fun _ _ _ _ _ h => h) rfl rfl ?_; intro Sd_ a w G1 hG HT H fin; refine s_index un26run ty214run _ H wn rfl rfl rfl (by first | assumption | omega) rfl ?_; clear H; intro a H; exact fin H (fun _ _ h => h) (rfl)
      · refine opI [(2, 18, _)] rfl ⟨fun _ _ h => h, trivial⟩ (by kernel_rfl) (fun _ _ _ _ _ h => h) rfl rfl ?_; intro Sd_ a w G1 hG HT H fin; refine s_loada ty214run (cs := A[k].cells) H wn rfl rfl (fun j v hj => H.hp.gcell (gcell_mono hG (gcell_mono hgm (hrow1 j v hj)))) rfl ?_; clear H; intro a H; exact fin H (fun _ _ h => h) (rfl)
      · refine opI [] rfl trivial (by kernel_rfl) (fun _ _ _ _ _ h => h) rfl rfl ?_; intro Sd_ a w G1 hG HT H fin; refine s_move H wn rfl rfl ?_; clear H; intro a H; exact fin H (fun _ _ h => h) (rfl)
      · refine opI [] rfl trivial (by kernel_rfl) (fun _ _ _ _ _ h => h) rfl rfl ?_; intro Sd_ a w G1 hG HT H fin; refine s_move H wn rfl rfl ?_; clear H; intro a H; exact fin H (fun _ _ h => h) (rfl)
      · refine opI [(4, 20, _), (5, 21, _)] rfl ⟨fun _ _ h => h, fun _ _ h => h, trivial⟩ (by kernel_rfl) (fun _ _ _ _ _ h => h) rfl rfl ?_; intro Sd_ a w G1 hG HT H fin; refine s_index un26run ty214run _ H wn rfl rfl rfl (by first | assumption | omega) rfl ?_; clear H; intro a H; exact fin H (fun _ _ h => h) (rfl)
      · refine opI [(6, 22, _)] rfl ⟨fun _ _ h => h, trivial⟩ (by kernel_rfl) (fun _ _ _ _ _ h => h) rfl rfl ?_; intro Sd_ a w G1 hG HT H fin; refine s_loada ty214run (cs := B[k].cells) H wn rfl rfl (fun j v hj => H.hp.gcell (gcell_mono hG (gcell_mono hgm (hrow2 j v hj)))) rfl ?_; clear H; intro a H; exact fin H (fun _ _ h => h) (rfl)
      refine opI [(3, 19, _), (7, 23, _)] rfl ⟨fun _ _ h => h, fun _ _ h => h, trivial⟩ (by kernel_rfl) (fun _ _ _ _ _ h => h) rfl rfl ?_; intro Sd_ a w G1 hG HT H fin; refine s_eqs (.inr rfl) eqs214ehd H wn rfl rfl rfl rfl ?_; clear H; intro a H; exact fin H (fun _ _ h => h) (congrArg Value.bool (ne_Del A[k] B[k]))
    clear H; intro a w G hGm6 H hv; obtain ⟨u24, hu24, hp24⟩ := hv 8 24 (by decide) rfl; obtain rfl : u24 = .bool (!decide (A[k] = B[k])) := hp24; have H := H.addS hu24; clear hv; refine wl_nil ⟨rfl, ?_⟩; refine hK11 _ _ ?_; clear hK11; refine c_cond H rfl ?_ ?_
    · intro h24
      try have p24 := of_decide_eq_true h24
      refine c_seqR (fun _ hK12 => ?_); refine s_assign H wn rfl rfl ?_; clear H; intro a H; refine hK12 _ _ ?_; clear hK12; refine c_ret ?_; refine (leave1 H Tryz.results116 (.cons (rv_tmp H rfl) .nil) ?_).1; exact H.hp.ret (congrArg Value.bool (decide_eq_false fun e => absurd h24 (by subst e; simp)).symm)
    intro h24
    try have p24 := of_decide_eq_false h24
    have hsm : A[k] = B[k] := by simpa using h24
    refine c_skip ?_; refine hK9 _ _ ?_; clear hK9; refine c_region ?_; refine s_add _ H wn rfl rfl rfl (by omega) (by omega) rfl ?_; clear H; intro a H; refine s_move H wn rfl rfl ?_; clear H; intro a H; refine wl_nil ?_; refine loop_end ((k + 1, G)) (by exact (H).sub ⟨rfl, rfl, rfl, rfl, trivial⟩) ?_ ?_
    · (try dsimp only); exact ⟨by omega, by rw [List.take_succ_eq_append_getElem hk2, List.take_succ_eq_append_getElem hk3, hsame, hsm], fun b o h => hGm6 b o (hgm b o h)⟩
    first | omega | (dsimp only; omega)
  intro h14
  try have p14 := of_decide_eq_false h14
  refine c_exit ?_; refine hK5 _ _ ?_; clear hK5; refine c_seqR (fun _ hK13 => ?_); refine s_assign H wn rfl rfl ?_; clear H; intro a H; refine hK13 _ _ ?_; clear hK13; refine c_ret ?_; refine (leave1 H Tryz.results116 (.cons (rv_tmp H rfl) .nil) ?_).1; exact H.hp.ret (congrArg Value.bool (decide_eq_true (by rw [List.take_of_length_le (by omega), List.take_of_length_le (by omega)] at hsame; exact hsame)).symm)
theorem eqLayer_spec (G : GH) (w0 : World) (hG : Hold G w0) (A B : List LayerD) (v u : Value) (hv : RepV G (.sl 4 (A.map LayerD.dat)) v) (hu : RepV G (.sl 4 (B.map LayerD.dat)) u) :
    Calls Tryz.prog 117 #[v, u] w0 (Ret w0 G fun r G' => r = .bool (decide (A = B))) := by
  obtain ⟨vA, vc, rfl, hc1, hc2, hg⟩ := hv.slice; obtain ⟨uA, uc, rfl, hd1, hd2, hh⟩ := hu.slice; have hml : maxLen = 9223372036854775807 := rfl; (iterate 2 rw [List.length_map] at *); refine enter (N := 26) (T := [(0, _), (1, _)]) (F := fun k => k < w0.heap.size) (L := []) Tryz.func117 rfl Tryz.ntmps117 rfl rfl hG (fun _ h => h) (fun _ h => by cases h) (fun _ h => by cases h) (fun _ h => by cases h) List.Pairwise.nil ?_; intro a H; refine c_seqR (fun _ hK1 => ?_); refine s_assign H wn rfl rfl ?_; clear H; intro a H; refine hK1 _ _ ?_; clear hK1; refine c_seq (fun _ hK2 => ?_); refine c_seqR (fun _ hK3 => ?_); refine s_move H wn rfl rfl ?_; clear H; intro a H; refine s_len un27run H wn rfl rfl ?_; clear H; intro a H; refine s_move H wn rfl rfl ?_; clear H; intro a H; refine s_len un27run H wn rfl rfl ?_; clear H; intro a H; refine s_cmp H wn rfl rfl rfl rfl ?_; clear H; intro a H; refine hK3 _ _ ?_; clear hK3; refine c_cond H rfl ?_ ?_
  · intro h10
    try have p10 := of_decide_eq_true h10
    refine c_seqR (fun _ hK4 => ?_); refine s_assign H wn rfl rfl ?_; clear H; intro a H; refine hK4 _ _ ?_; clear hK4; refine c_ret ?_; refine (leave1 H Tryz.results117 (.cons (rv_tmp H rfl) .nil) ?_).1; exact H.hp.ret (congrArg Value.bool (decide_eq_false fun e => absurd (congrArg List.length e) (by omega)).symm)
  intro h10
  try have p10 := of_decide_eq_false h10
  refine c_skip ?_; refine hK2 _ _ ?_; clear hK2; refine c_seq (fun _ hK5 => ?_); refine c_seqR (fun _ hK6 => ?_); refine s_move H wn rfl rfl ?_; clear H; intro a H; refine s_len un27run H wn rfl rfl ?_; clear H; intro a H; refine s_move H wn rfl rfl ?_; clear H; intro a H; refine hK6 _ _ ?_; clear hK6; refine c_block ?_; skip; refine c_loopS (ι := Nat × GH) (Tc := [(0, _), (1, _), (12, _)]) (Lc := []) (fun (gh : Nat × GH) => [(13, vi gh.1)]) (fun (gh : Nat × GH) => []) (fun (gh : Nat × GH) => gh.2) (fun (gh : Nat × GH) => gh.1 ≤ A.length ∧ A.take gh.1 = B.take gh.1 ∧ (∀ b o, G b = some o → gh.2 b = some o)) (fun (gh : Nat × GH) => A.length - gh.1) ((0, G)) (by exact (H).sub ⟨rfl, rfl, rfl, rfl, trivial⟩) ?_ ?_
  · exact ⟨by omega, rfl, fun _ _ h => h⟩
  clear H; intro gh a w hI H; obtain ⟨k, g⟩ := gh; dsimp only at hI H; obtain ⟨hk, hsame, hgm⟩ := hI; dsimp only [List.cons_append, List.nil_append, List.append_nil] at H; refine c_seqR (fun _ hK7 => ?_); refine s_cmp H wn rfl rfl rfl rfl ?_; clear H; intro a H; refine hK7 _ _ ?_; clear hK7; refine c_seq (fun _ hK8 => ?_); refine c_cond H rfl ?_ ?_
  · intro h14
    try have p14 := of_decide_eq_true h14
    have hk2 : k < A.length := by omega
    have hk3 : k < B.length := by omega
    obtain ⟨b1, o1, cs1, rfl, hcl1, hrow1, hr1⟩ := hg k A[k].dat (by simp [hk2]); obtain rfl := layer_of hr1; obtain ⟨b2, o2, cs2, rfl, hcl2, hrow2, hr2⟩ := hh k B[k].dat (by simp [hk3]); obtain rfl := layer_of hr2; refine c_skip ?_; refine hK8 _ _ ?_; clear hK8; refine c_seq (fun _ hK9 => ?_); refine c_block ?_; refine c_seqR (fun _ hK10 => ?_); refine s_move H wn rfl rfl ?_; clear H; intro a H; refine s_assign H wn rfl rfl ?_; clear H; intro a H; refine hK10 _ _ ?_; clear hK10; refine c_seq (fun _ hK11 => ?_); refine c_drawI (hmx) [[], [], [0, 1], [0, 1, 2], [], [], [4, 5], [4, 5, 6], [0, 1, 2, 3, 4, 5, 6, 7]] [] (by kernel_rfl) (by kernel_rfl) (fun (ix_ : Nat) (v : Value) (G : GH) => match ix_ with | 0 => v = .slice (some ⟨b1, o1, none⟩) A.length vc | 1 => v = vi k | 2 => v = .pointer (some ⟨b1, o1 + k * 4, none⟩) | 3 => v = .agg A[k].cells.toArray | 4 => v = .slice (some ⟨b2, o2, none⟩) B.length uc | 5 => v = vi k | 6 => v = .pointer (some ⟨b2, o2 + k * 4, none⟩) | 7 => v = .agg B[k].cells.toArray | 8 => v = .bool (!decide (A[k] = B[k])) | _ => True) (fun _ _ _ _ _ h => h) H ?_ ?_
    · clear H; refine (allI_cons ?_ (allI_cons ?_ (allI_cons ?_ (allI_cons ?_ (allI_cons ?_ (allI_cons ?_ (allI_cons ?_ (allI_cons ?_ (allI_cons ?_ allI_nil)))))))))
      · refine opI [] rfl trivial (by kernel_rfl) (fun _ _ _ _ _ h => h) rfl rfl ?_; intro Sd_ a w G1 hG HT H fin; refine s_move H wn rfl rfl ?_; clear H; intro a H; exact fin H (fun _ _ h => h) (rfl)
      · refine opI [] rfl trivial (by kernel_rfl) (fun _ _ _ _ _ h => h) rfl rfl ?_; intro Sd_ a w G1 hG HT H fin; refine s_move H wn rfl rfl ?_; clear H; intro a H; exact fin H (fun _ _ h => h) (rfl)
      · refine opI [(0, 16, _), (1, 17, _)] rfl ⟨fun _ _ h => h, fun _ _ h => h, trivial⟩ (by kernel_rfl) (fun _ _ _ _ _ h => h) rfl rfl ?_; intro Sd_ a w G1 hG HT H fin; refine s_index un27run ty217run _ H wn rfl rfl rfl (by first | assumption | omega) rfl ?_; clear H; intro a H; exact fin H (fun _ _ h => h) (rfl)
      · refine opI [(2, 18, _)] rfl ⟨fun _ _ h => h, trivial⟩ (by kernel_rfl) (fun _ _ _ _ _ h => h) rfl rfl ?_; intro Sd_ a w G1 hG HT H fin; refine s_loada ty217run (cs := A[k].cells) H wn rfl rfl (fun j v hj => H.hp.gcell (gcell_mono hG (gcell_mono hgm (hrow1 j v hj)))) rfl ?_; clear H; intro a H; exact fin H (fun _ _ h => h) (rfl)
      · refine opI [] rfl trivial (by kernel_rfl) (fun _ _ _ _ _ h => h) rfl rfl ?_; intro Sd_ a w G1 hG HT H fin; refine s_move H wn rfl rfl ?_; clear H; intro a H; exact fin H (fun _ _ h => h) (rfl)
      · refine opI [] rfl trivial (by kernel_rfl) (fun _ _ _ _ _ h => h) rfl rfl ?_; intro Sd_ a w G1 hG HT H fin; refine s_move H wn rfl rfl ?_; clear H; intro a H; exact fin H (fun _ _ h => h) (rfl)
      · refine opI [(4, 20, _), (5, 21, _)] rfl ⟨fun _ _ h => h, fun _ _ h => h, trivial⟩ (by kernel_rfl) (fun _ _ _ _ _ h => h) rfl rfl ?_; intro Sd_ a w G1 hG HT H fin; refine s_index un27run ty217run _ H wn rfl rfl rfl (by first | assumption | omega) rfl ?_; clear H; intro a H; exact fin H (fun _ _ h => h) (rfl)
      · refine opI [(6, 22, _)] rfl ⟨fun _ _ h => h, trivial⟩ (by kernel_rfl) (fun _ _ _ _ _ h => h) rfl rfl ?_; intro Sd_ a w G1 hG HT H fin; refine s_loada ty217run (cs := B[k].cells) H wn rfl rfl (fun j v hj => H.hp.gcell (gcell_mono hG (gcell_mono hgm (hrow2 j v hj)))) rfl ?_; clear H; intro a H; exact fin H (fun _ _ h => h) (rfl)
      refine opI [(3, 19, _), (7, 23, _)] rfl ⟨fun _ _ h => h, fun _ _ h => h, trivial⟩ (by kernel_rfl) (fun _ _ _ _ _ h => h) rfl rfl ?_; intro Sd_ a w G1 hG HT H fin; refine s_eqs (.inr rfl) eqs217ehd H wn rfl rfl rfl rfl ?_; clear H; intro a H; exact fin H (fun _ _ h => h) (congrArg Value.bool (ne_Layer A[k] B[k]))
    clear H; intro a w G hGm6 H hv; obtain ⟨u24, hu24, hp24⟩ := hv 8 24 (by decide) rfl; obtain rfl : u24 = .bool (!decide (A[k] = B[k])) := hp24; have H := H.addS hu24; clear hv; refine wl_nil ⟨rfl, ?_⟩; refine hK11 _ _ ?_; clear hK11; refine c_cond H rfl ?_ ?_
    · intro h24
      try have p24 := of_decide_eq_true h24
      refine c_seqR (fun _ hK12 => ?_); refine s_assign H wn rfl rfl ?_; clear H; intro a H; refine hK12 _ _ ?_; clear hK12; refine c_ret ?_; refine (leave1 H Tryz.results117 (.cons (rv_tmp H rfl) .nil) ?_).1; exact H.hp.ret (congrArg Value.bool (decide_eq_false fun e => absurd h24 (by subst e; simp)).symm)
    intro h24
    try have p24 := of_decide_eq_false h24
    have hsm : A[k] = B[k] := by simpa using h24
    refine c_skip ?_; refine hK9 _ _ ?_; clear hK9; refine c_region ?_; refine s_add _ H wn rfl rfl rfl (by omega) (by omega) rfl ?_; clear H; intro a H; refine s_move H wn rfl rfl ?_; clear H; intro a H; refine wl_nil ?_; refine loop_end ((k + 1, G)) (by exact (H).sub ⟨rfl, rfl, rfl, rfl, trivial⟩) ?_ ?_
    · (try dsimp only); exact ⟨by omega, by rw [List.take_succ_eq_append_getElem hk2, List.take_succ_eq_append_getElem hk3, hsame, hsm], fun b o h => hGm6 b o (hgm b o h)⟩
    first | omega | (dsimp only; omega)
  intro h14
  try have p14 := of_decide_eq_false h14
  refine c_exit ?_; refine hK5 _ _ ?_; clear hK5; refine c_seqR (fun _ hK13 => ?_); refine s_assign H wn rfl rfl ?_; clear H; intro a H; refine hK13 _ _ ?_; clear hK13; refine c_ret ?_; refine (leave1 H Tryz.results117 (.cons (rv_tmp H rfl) .nil) ?_).1; exact H.hp.ret (congrArg Value.bool (decide_eq_true (by rw [List.take_of_length_le (by omega), List.take_of_length_le (by omega)] at hsame; exact hsame)).symm)
theorem HeadD.eq_iff (a b : HeadD) : (((a.props = b.props ∧ a.marks.ins = b.marks.ins) ∧ a.marks.move = b.marks.move) ∧ a.marks.dels = b.marks.dels) ∧ a.marks.layers = b.marks.layers ↔ a = b := by
  obtain ⟨p, i, m, d, l⟩ := a; obtain ⟨p2, i2, m2, d2, l2⟩ := b
  simp [and_assoc]
instance : DecidableEq HeadD := fun a b => decidable_of_iff _ (HeadD.eq_iff a b)
abbrev hdV (h : HeadD) (p d l : Value) : Value := .agg #[p, vi h.marks.ins, vi h.marks.move, d, l]
theorem equalHead_spec (G : GH) (w0 : World) (hG : Hold G w0) (x y : HeadD) (p d l p2 d2 l2 : Value) (hx : HeadR G x p d l) (hy : HeadR G y p2 d2 l2) :
    Calls Tryz.prog 48 #[hdV x p d l, hdV y p2 d2 l2] w0 (Ret w0 G fun r G' => r = .bool (decide (x = y))) := by
  obtain ⟨pA, pc, rfl, -, -, -⟩ := hx.props.slice; obtain ⟨dA, dc, rfl, -, -, -⟩ := hx.dels.slice; obtain ⟨lA, lc, rfl, -, -, -⟩ := hx.layers.slice; obtain ⟨pA2, pc2, rfl, -, -, -⟩ := hy.props.slice; obtain ⟨dA2, dc2, rfl, -, -, -⟩ := hy.dels.slice; obtain ⟨lA2, lc2, rfl, -, -, -⟩ := hy.layers.slice; have he := HeadD.eq_iff x y; refine enter (N := 46) (T := [(0, _), (1, _)]) (F := fun k => k < w0.heap.size) (L := []) Tryz.func48 rfl Tryz.ntmps48 rfl rfl hG (fun _ h => h) (fun _ h => by cases h) (fun _ h => by cases h) (fun _ h => by cases h) List.Pairwise.nil ?_; intro a H; refine c_seqR (fun _ hK1 => ?_); refine s_box (cs := [_, _, _, _, _]) H wn rfl rfl rfl ?_; clear H; intro b2 a w hb2 H; refine s_box (cs := [_, _, _, _, _]) H wn rfl rfl rfl ?_; clear H; intro b3 a w hb3 H; refine s_assign H wn rfl rfl ?_; clear H; intro a H; refine hK1 _ _ ?_; clear hK1; refine c_seqR (fun _ hK2 => ?_); refine s_field fd31_0run H wn rfl rfl ?_; clear H; intro a H; refine s_load ty25run H wn rfl (H.hp.ocell 1 rfl rfl) rfl ?_; clear H; intro a H; refine s_field fd31_0run H wn rfl rfl ?_; clear H; intro a H; refine s_load ty25run H wn rfl (H.hp.ocell 0 rfl rfl) rfl ?_; clear H; intro a H; refine s_call en115ehd H wn rfl (eqProp_spec _ _ H.hp.ro x.props y.props _ _ hx.props hy.props) rfl ?_; clear H; rintro v9 G9 a w rfl hm9 H; refine s_move H wn rfl rfl ?_; clear H; intro a H; refine s_split H 10 rfl ?_ ?_
  · intro h10
    try have p10 := of_decide_eq_true h10
    refine s_field fd31_1run H (wg H rfl rfl h10) rfl rfl ?_; clear H; intro a H; refine s_field fd29_0ehd H (wg H rfl rfl h10) rfl rfl ?_; clear H; intro a H; refine s_load ty3run H (wg H rfl rfl h10) rfl (H.hp.ocell 1 rfl rfl) rfl ?_; clear H; intro a H; refine s_field fd31_1run H (wg H rfl rfl h10) rfl rfl ?_; clear H; intro a H; refine s_field fd29_0ehd H (wg H rfl rfl h10) rfl rfl ?_; clear H; intro a H; refine s_load ty3run H (wg H rfl rfl h10) rfl (H.hp.ocell 0 rfl rfl) rfl ?_; clear H; intro a H; refine s_cmp H (wg H rfl rfl h10) rfl rfl rfl rfl ?_; clear H; intro a H; refine s_pick_t H wn rfl h10 rfl rfl ?_; clear H; intro a H; refine s_move H wn rfl rfl ?_; clear H; intro a H; refine s_split H 19 rfl ?_ ?_
    · intro h19
      try have p19 := of_decide_eq_true h19
      refine s_field fd31_1run H (wg H rfl rfl h19) rfl rfl ?_; clear H; intro a H; refine s_field fd29_1ehd H (wg H rfl rfl h19) rfl rfl ?_; clear H; intro a H; refine s_load ty3run H (wg H rfl rfl h19) rfl (H.hp.ocell 1 rfl rfl) rfl ?_; clear H; intro a H; refine s_field fd31_1run H (wg H rfl rfl h19) rfl rfl ?_; clear H; intro a H; refine s_field fd29_1ehd H (wg H rfl rfl h19) rfl rfl ?_; clear H; intro a H; refine s_load ty3run H (wg H rfl rfl h19) rfl (H.hp.ocell 0 rfl rfl) rfl ?_; clear H; intro a H; refine s_cmp H (wg H rfl rfl h19) rfl rfl rfl rfl ?_; clear H; intro a H; refine s_pick_t H wn rfl h19 rfl rfl ?_; clear H; intro a H; refine s_move H wn rfl rfl ?_; clear H; intro a H; refine s_split H 28 rfl ?_ ?_
      · intro h28
        try have p28 := of_decide_eq_true h28
        refine s_field fd31_1run H (wg H rfl rfl h28) rfl rfl ?_; clear H; intro a H; refine s_field fd29_2run H (wg H rfl rfl h28) rfl rfl ?_; clear H; intro a H; refine s_load ty26run H (wg H rfl rfl h28) rfl (H.hp.ocell 1 rfl rfl) rfl ?_; clear H; intro a H; refine s_field fd31_1run H (wg H rfl rfl h28) rfl rfl ?_; clear H; intro a H; refine s_field fd29_2run H (wg H rfl rfl h28) rfl rfl ?_; clear H; intro a H; refine s_load ty26run H (wg H rfl rfl h28) rfl (H.hp.ocell 0 rfl rfl) rfl ?_; clear H; intro a H; refine s_call en116ehd H (wg H rfl rfl h28) rfl (eqDel_spec _ _ H.hp.ro x.marks.dels y.marks.dels _ _ (hx.dels.mono hm9) (hy.dels.mono hm9)) rfl ?_; clear H; rintro v35 G35 a w rfl hm35 H; refine s_pick_t H wn rfl h28 rfl rfl ?_; clear H; intro a H; refine s_move H wn rfl rfl ?_; clear H; intro a H; refine s_split H 37 rfl ?_ ?_
        · intro h37
          try have p37 := of_decide_eq_true h37
          refine s_field fd31_1run H (wg H rfl rfl h37) rfl rfl ?_; clear H; intro a H; refine s_field fd29_3run H (wg H rfl rfl h37) rfl rfl ?_; clear H; intro a H; refine s_load ty27run H (wg H rfl rfl h37) rfl (H.hp.ocell 1 rfl rfl) rfl ?_; clear H; intro a H; refine s_field fd31_1run H (wg H rfl rfl h37) rfl rfl ?_; clear H; intro a H; refine s_field fd29_3run H (wg H rfl rfl h37) rfl rfl ?_; clear H; intro a H; refine s_load ty27run H (wg H rfl rfl h37) rfl (H.hp.ocell 0 rfl rfl) rfl ?_; clear H; intro a H; refine s_call en117ehd H (wg H rfl rfl h37) rfl (eqLayer_spec _ _ H.hp.ro x.marks.layers y.marks.layers _ _ ((hx.layers.mono hm9).mono hm35) ((hy.layers.mono hm9).mono hm35)) rfl ?_; clear H; rintro v44 G44 a w rfl hm44 H; refine s_pick_t H wn rfl h37 rfl rfl ?_; clear H; intro a H; refine s_assign H wn rfl rfl ?_; clear H; intro a H; refine hK2 _ _ ?_; clear hK2; refine c_ret ?_; refine (leave1 H Tryz.results48 (.cons (rv_tmp H rfl) .nil) ?_).1; exact H.hp.ret (congrArg Value.bool (by simp_all))
        intro h37
        try have p37 := of_decide_eq_false h37
        (iterate 7 refine s_skip H rfl rfl h37 rfl ?_; clear H; intro a H); refine s_pick_f H wn rfl h37 rfl rfl ?_; clear H; intro a H; refine s_assign H wn rfl rfl ?_; clear H; intro a H; refine hK2 _ _ ?_; clear hK2; refine c_ret ?_; refine (leave1 H Tryz.results48 (.cons (rv_tmp H rfl) .nil) ?_).1; exact H.hp.ret (congrArg Value.bool (by simp_all))
      intro h28
      try have p28 := of_decide_eq_false h28
      (iterate 7 refine s_skip H rfl rfl h28 rfl ?_; clear H; intro a H); refine s_pick_f H wn rfl h28 rfl rfl ?_; clear H; intro a H; refine s_move H wn rfl rfl ?_; clear H; intro a H; (iterate 7 refine s_skip H rfl rfl rfl rfl ?_; clear H; intro a H); refine s_pick_f H wn rfl rfl rfl rfl ?_; clear H; intro a H; refine s_assign H wn rfl rfl ?_; clear H; intro a H; refine hK2 _ _ ?_; clear hK2; refine c_ret ?_; refine (leave1 H Tryz.results48 (.cons (rv_tmp H rfl) .nil) ?_).1; exact H.hp.ret (congrArg Value.bool (by simp_all))
    intro h19
    try have p19 := of_decide_eq_false h19
    (iterate 7 refine s_skip H rfl rfl h19 rfl ?_; clear H; intro a H); refine s_pick_f H wn rfl h19 rfl rfl ?_; clear H; intro a H; refine s_move H wn rfl rfl ?_; clear H; intro a H; (iterate 7 refine s_skip H rfl rfl rfl rfl ?_; clear H; intro a H); refine s_pick_f H wn rfl rfl rfl rfl ?_; clear H; intro a H; refine s_move H wn rfl rfl ?_; clear H; intro a H; (iterate 7 refine s_skip H rfl rfl rfl rfl ?_; clear H; intro a H); refine s_pick_f H wn rfl rfl rfl rfl ?_; clear H; intro a H; refine s_assign H wn rfl rfl ?_; clear H; intro a H; refine hK2 _ _ ?_; clear hK2; refine c_ret ?_; refine (leave1 H Tryz.results48 (.cons (rv_tmp H rfl) .nil) ?_).1; exact H.hp.ret (congrArg Value.bool (by simp_all))
  intro h10
  try have p10 := of_decide_eq_false h10
  (iterate 7 refine s_skip H rfl rfl h10 rfl ?_; clear H; intro a H); refine s_pick_f H wn rfl h10 rfl rfl ?_; clear H; intro a H; refine s_move H wn rfl rfl ?_; clear H; intro a H; (iterate 7 refine s_skip H rfl rfl rfl rfl ?_; clear H; intro a H); refine s_pick_f H wn rfl rfl rfl rfl ?_; clear H; intro a H; refine s_move H wn rfl rfl ?_; clear H; intro a H; (iterate 7 refine s_skip H rfl rfl rfl rfl ?_; clear H; intro a H); refine s_pick_f H wn rfl rfl rfl rfl ?_; clear H; intro a H; refine s_move H wn rfl rfl ?_; clear H; intro a H; (iterate 7 refine s_skip H rfl rfl rfl rfl ?_; clear H; intro a H); refine s_pick_f H wn rfl rfl rfl rfl ?_; clear H; intro a H; refine s_assign H wn rfl rfl ?_; clear H; intro a H; refine hK2 _ _ ?_; clear hK2; refine c_ret ?_; refine (leave1 H Tryz.results48 (.cons (rv_tmp H rfl) .nil) ?_).1; exact H.hp.ret (congrArg Value.bool (by simp_all))
end
section
open Go.RowKit
section
variable {N : Nat} {D : List Deferred} {w0 : World} {F : Nat → Prop} {G0 G : GH} {L : OL} {T : List (Nat × Value)}
variable {r : Option Nat} {P : Program} {ops : Array Oper} {Q : Exit → Act → World → Prop} {rest : List Oper} {a : Act} {w : World}
variable {d : Nat} {ty : TypeId} {pos : String} {aft : Array Edge} {g : Option (Nat × Bool)}
theorem s_makeMap {t : TypeId} (H : St N D w0 F G0 G L T a w) (hw : Region.wanted ⟨some d, .makeMap t none, ty, pos, aft, g⟩ (yielded ops a.tmps) = true) (hd : Nat.blt d N = true)
    (k : ∀ b a' w', w0.heap.size ≤ b → St N D w0 F G0 G ((b, .map #[] 0) :: L) ((d, .map (some b)) :: T) a' w' → WL r P ops Q rest a' w') : WL r P ops Q (⟨some d, .makeMap t none, ty, pos, aft, g⟩ :: rest) a w := by
  refine wl_value (v := .map (some w.heap.size)) (w' := w.alloc (.map #[] 0)) hw rfl ?_ (k _ _ _ H.hp.size (H.put hd _ (H.hp.alloc _)))
  simp [execOp, Instr.makeMap, newObj, Sem.run, Sem.run_bind]
/-- What a lookup finds. -/
def mapV (an : Option (Nat × Value)) (zv : Value) : Value × Bool := match an with | some (_, v) => (v, true) | none => (zv, false)
theorem s_lookup {t kt et : TypeId} {kd : TypeDesc} {x y : Operand} {b i clock : Nat} {es : Array MapEntry} {ky zv : Value} (an : Option (Nat × Value)) (hm : P.underlying t = some (.map kt et)) (hk : P.underlying kt = some kd) (hz : (P.info? et).map (fun i => i.zero) = some (some zv)) (H : St N D w0 F G0 G L T a w)
    (hw : Region.wanted ⟨some d, .lookup t x y true, ty, pos, aft, g⟩ (yielded ops a.tmps) = true) (hx : ev T x = some (.map (some b))) (hy : ev T y = some ky) (hi : L[i]? = some (b, .map es clock)) (hky : MapKept.IsKey kd ky) (hf : Instr.findNow kd ky es.toList 0 = some an) (hd : Nat.blt d N = true)
    (k : ∀ a', St N D w0 F G0 G L ((d, .tuple #[(mapV an zv).1, .bool (mapV an zv).2]) :: T) a' w → WL r P ops Q rest a' w) : WL r P ops Q (⟨some d, .lookup t x y true, ty, pos, aft, g⟩ :: rest) a w := by
  have hb : w.heap[b]? = some (.map es clock) := H.hp.own _ (List.mem_of_getElem? hi)
  obtain ⟨inf, hi1, hi2⟩ := Option.map_eq_some_iff.1 hz
  refine wl_value (v := .tuple #[(mapV an zv).1, .bool (mapV an zv).2]) (w' := w) hw rfl ?_ (k _ (H.put hd _ H.hp))
  have h1 := MapKept.run_checkKey (w := w) hk hky es.isEmpty 9999
  have h2 := MapKept.run_findKey (w := w) hk hf
  cases an with
  | none => simp [execOp, Instr.lookup, H.ev hx, H.ev hy, Sem.run_bind, run_und hm, MapKept.run_getObj_map hb, h1, h2, Result.andThen, zeroValue, run_info hi1, hi2, mapV]
  | some q => simp [execOp, Instr.lookup, H.ev hx, H.ev hy, Sem.run_bind, run_und hm, MapKept.run_getObj_map hb, h1, h2, Result.andThen, mapV]
theorem upd_map {w : World} {b clock : Nat} {es : Array MapEntry} {o : Obj} (h : w.heap[b]? = some (.map es clock)) : Upd b o w { w with heap := w.heap.setIfInBounds b o } := by
  have hlt : b < w.heap.size := (Array.getElem?_eq_some_iff.1 h).1
  refine ⟨rfl, rfl, rfl, by simp, by simp [hlt], fun k hk => ?_⟩
  simp only
  rw [Array.getElem?_setIfInBounds_ne (Ne.symm hk)]
/-- A key that is not there yet. -/
theorem s_mapNew {t kt et : TypeId} {kd : TypeDesc} {x y z : Operand} {b i clock : Nat} {es : Array MapEntry} {ky v : Value} (hm : P.underlying t = some (.map kt et)) (hk : P.underlying kt = some kd) (H : St N D w0 F G0 G L T a w)
    (hw : Region.wanted ⟨none, .mapUpdate t x y z, ty, pos, aft, g⟩ (yielded ops a.tmps) = true) (hx : ev T x = some (.map (some b))) (hy : ev T y = some ky) (hzv : ev T z = some v) (hi : L[i]? = some (b, .map es clock)) (hky : MapKept.IsKey kd ky) (hf : Instr.findNow kd ky es.toList 0 = some none)
    (k : ∀ w', St N D w0 F G0 G (L.set i (b, .map (es.push ⟨ky, v, clock⟩) (clock + 1))) T a w' → WL r P ops Q rest a w') : WL r P ops Q (⟨none, .mapUpdate t x y z, ty, pos, aft, g⟩ :: rest) a w := by
  have hb : w.heap[b]? = some (.map es clock) := H.hp.own _ (List.mem_of_getElem? hi)
  have h1 := MapKept.run_checkKey (w := w) hk hky false 9999
  have h2 := MapKept.run_findKey (w := w) hk hf
  refine wl_unit (w' := { w with heap := w.heap.setIfInBounds b (.map (es.push ⟨ky, v, clock⟩) (clock + 1)) }) hw rfl ?_ (k _ (H.move (H.hp.upd hi (upd_map hb))))
  simp [execOp, Instr.mapUpdate, H.ev hx, H.ev hy, H.ev hzv, Sem.run_bind, run_und hm, MapKept.run_getObj_map hb, h1, h2, MapKept.run_setObj_map _ hb, Result.andThen]
theorem s_remk {kd : IntKind} {t yt : TypeId} {x y : Operand} {p q : Int} (z : Int) (H : St N D w0 F G0 G L T a w) (hw : Region.wanted ⟨some d, .binOp .rem t x y yt, ty, pos, aft, g⟩ (yielded ops a.tmps) = true) (hx : ev T x = some (.int kd p)) (hy : ev T y = some (.int kd q)) (hq : ¬ q = 0) (hz : p.tmod q = z) (hd : Nat.blt d N = true)
    (k : ∀ a', St N D w0 F G0 G L ((d, .int kd z) :: T) a' w → WL r P ops Q rest a' w) : WL r P ops Q (⟨some d, .binOp .rem t x y yt, ty, pos, aft, g⟩ :: rest) a w := by
  subst hz
  refine wl_value (v := .int kd (p.tmod q)) (w' := w) hw rfl ?_ (k _ (H.put hd _ H.hp))
  simp [execOp, H.ev hx, H.ev hy, Sem.run_bind, eqGuard, binOp, Op.intDiv, hq]
theorem Hp.mcell (h : Hp w0 F G0 G L w) {b o : Nat} {c : Array Value} {e : TypeId} {fz : Nat × Nat} {v : Value} (hm : (b, Obj.cells c e fz) ∈ L) (hv : c[o]? = some v) : w.cell? ⟨b, o, none⟩ = some v := by
  have := h.own _ hm
  simp only [World.cell?, this]
  exact hv
end
end
section
open Go.RowKit
section
variable {N : Nat} {D : List Deferred} {w0 : World} {F : Nat → Prop} {G0 G : GH} {L Li Lo : OL} {T : List (Nat × Value)}
variable {r : Option Nat} {P : Program} {ops : Array Oper} {Q : Exit → Act → World → Prop} {rest : List Oper} {a : Act} {w : World}
variable {d : Nat} {ty : TypeId} {pos : String} {aft : Array Edge} {g : Option (Nat × Bool)}
/-- The head of a slice. -/
theorem s_sliceTo {t e : TypeId} {sz bytes : Nat} {zero : List Value} {agg : Bool} (hs : P.underlying t = some (.slice e)) (ht : Ty P e sz bytes zero agg) {x z : Operand} {A : Option Addr} {n c : Nat} (hi : Nat) {q : Int} (H : St N D w0 F G0 G L T a w)
    (hw : Region.wanted ⟨some d, .slice t x none (some z) none, ty, pos, aft, g⟩ (yielded ops a.tmps) = true) (hx : ev T x = some (.slice A n c)) (hz : ev T z = some (.int .i64 q)) (hq : q = (hi : Int)) (h2 : hi ≤ c) (hd : Nat.blt d N = true)
    (k : ∀ a', St N D w0 F G0 G L ((d, .slice A hi c) :: T) a' w → WL r P ops Q rest a' w) : WL r P ops Q (⟨some d, .slice t x none (some z) none, ty, pos, aft, g⟩ :: rest) a w := by
  subst hq
  refine wl_value (v := .slice A hi c) (w' := w) hw rfl ?_ (k _ (H.put hd _ H.hp))
  simp [execOp, H.ev hx, H.ev hz, Instr.sliceAt, Instr.slice, Instr.sliceBounds, Instr.sliceBound, Sem.run_bind, run_und hs, ht.run_size, asIntOf, h2]
  intro _
  cases A with
  | none => rfl
  | some p => simp [Addr.add]
end
end
section
open Go.RowKit
section
variable {N : Nat} {D : List Deferred} {w0 : World} {F : Nat → Prop} {G0 G : GH} {L Lo : OL} {T : List (Nat × Value)}
variable {r : Option Nat} {P : Program} {ops : Array Oper} {Q : Exit → Act → World → Prop} {rest : List Oper} {a : Act} {w : World}
variable {d : Nat} {ty : TypeId} {pos : String} {aft : Array Edge} {g : Option (Nat × Bool)}
theorem zeroCells_len (z : Array Value) (n : Nat) : (Builtin.zeroCells z n).toList.length = n * z.size := by simp [Builtin.zeroCells]
theorem zeroCells_one {z : Array Value} {n : Nat} (h : z.toList.all Value.oneCell' = true) : ∀ u ∈ (Builtin.zeroCells z n).toList, u.oneCell' = true := by
  intro u hu
  simp only [Builtin.zeroCells, Array.toList_map, List.mem_map] at hu
  obtain ⟨i, hi, rfl⟩ := hu
  have hi2 : i < n * z.size := by simpa using hi
  have hz : 0 < z.size := by
    rcases Nat.eq_zero_or_pos z.size with e | e
    · rw [e, Nat.mul_zero] at hi2; omega
    · exact e
  have hlt : i % z.size < z.size := Nat.mod_lt _ hz
  rw [getElem!_pos z (i % z.size) hlt]
  exact List.all_eq_true.1 h _ (by simp)
/-- The builtin clear, on a part of what the call owns: what lies ahead of it stays. -/
theorem s_clear {t e : TypeId} {sz bytes : Nat} {zero : List Value} {agg : Bool} (hs : P.underlying t = some (.slice e)) (ht : Ty P e sz bytes zero agg) (hz : Nat.beq zero.length sz = true) (hz1 : zero.all Value.oneCell' = true) {x : Operand} (i : Nat) {b o n cp : Nat} {c : List Value} (H : St N D w0 F G0 G L T a w)
    (hw : Region.wanted ⟨none, .call { callee := .builtin .clear, args := #[x], argTypes := #[t] }, ty, pos, aft, g⟩ (yielded ops a.tmps) = true) (hx : ev T x = some (.slice (some ⟨b, o, none⟩) n cp)) (hi : L[i]? = some (b, .cells c.toArray e (0, 0))) (hn : 0 < n) (hle : o + n * sz ≤ c.length)
    (k : ∀ (c' : List Value) w', c'.length = c.length → c'.take o = c.take o → St N D w0 F G0 G (L.set i (b, .cells c'.toArray e (0, 0))) T a w' → WL r P ops Q rest a w') :
    WL r P ops Q (⟨none, .call { callee := .builtin .clear, args := #[x], argTypes := #[t] }, ty, pos, aft, g⟩ :: rest) a w := by
  obtain ⟨inf, z, hi0, hi1, hi2, hi3, hi4⟩ := ht.parts
  have hb := H.hp.own _ (List.mem_of_getElem? hi)
  have hzs : z.cells.size = sz := by rw [hi4]; simpa using Nat.eq_of_beq_eq_true hz
  have hlen : (Builtin.zeroCells z.cells n).toList.length = n * sz := by rw [zeroCells_len, hzs]
  obtain ⟨w2, h2, u2⟩ := run_storeCells (P := P) b e o (Builtin.zeroCells z.cells n).toList 0 c w hb (by rw [hlen]; omega) (zeroCells_one (by rw [hi4]; simpa using hz1))
  simp only [Nat.add_zero] at u2
  refine wl_value (v := .tuple #[]) (w' := w2) hw rfl ?_ (k _ w2 ?_ ?_ (H.move (H.hp.upd hi u2)))
  · obtain ⟨m, rfl⟩ : ∃ m, n = m + 1 := ⟨n - 1, by omega⟩
    simp [execOp, resolve, invoke, builtin, Builtin.clear_, Sem.run_bind, H.ev hx, run_und hs, zeroValue, run_info hi0, hi3, h2]
  · rw [setRow_length]
  · rw [setRow_eq _ _ _ (by rw [hlen]; exact hle), List.append_assoc, List.take_append_of_le_length (by rw [List.length_take]; omega), List.take_of_length_le (by rw [List.length_take]; omega)]
end
end
section
open Go.RowKit
theorem IsRow.ptr {e sz n c : Nat} {A : Option Addr} {xs : List Value} {Lo : OL} (h : IsRow e sz (.slice A n c) n xs Lo) (hn : 0 < n) : ∃ b, A = some ⟨b, 0, none⟩ := by
  rcases h.2 with ⟨_, h0, _⟩ | ⟨b, cap, cur, he, _⟩
  · omega
  · injection he with e1; exact ⟨b, e1⟩
theorem IsRow.at {w0 w : World} {F : Nat → Prop} {G0 G : GH} {L Lo : OL} {e sz n c b o : Nat} {xs : List Value} (h : IsRow e sz (.slice (some ⟨b, o, none⟩) n c) n xs Lo) (H : Hp w0 F G0 G L w) (hsub : ∀ x ∈ Lo, x ∈ L) {i : Nat} {u : Value} (hi : xs[i]? = some u) : w.cell? ⟨b, i, none⟩ = some u := by
  rcases h.2 with ⟨h1, _⟩ | ⟨b2, cap, cur, he, hl, h1, h2, h3, h4⟩
  · cases h1
  · injection he with e1
    injection e1 with e1
    injection e1 with e1
    subst e1
    refine H.mcell (c := cur) (e := e) (fz := (0, 0)) (hsub _ (by rw [hl]; exact List.mem_singleton_self _)) ?_
    have hx : i < xs.length := (List.getElem?_eq_some_iff.1 hi).1
    rw [h.1] at hx
    rw [← h4, List.getElem?_take, if_pos hx, Array.getElem?_toList] at hi
    exact hi
theorem flat_get {sz : Nat} : ∀ {css : List (List Value)} {k : Nat} (hk : k < css.length) (h : ∀ cs ∈ css, cs.length = sz) (j : Nat), j < sz → css.flatten[k * sz + j]? = css[k][j]?
  | c :: css, 0, _, h, j, hj => by
    rw [List.flatten_cons, Nat.zero_mul, Nat.zero_add, List.getElem_cons_zero, List.getElem?_append_left (by rw [h c List.mem_cons_self]; exact hj)]
  | c :: css, k + 1, hk, h, j, hj => by
    have ih := flat_get (css := css) (k := k) (by simpa using hk) (fun cs hc => h cs (List.mem_cons_of_mem _ hc)) j hj
    rw [List.flatten_cons, List.getElem_cons_succ, List.getElem?_append_right (by rw [h c List.mem_cons_self, Nat.succ_mul]; omega), h c List.mem_cons_self, show (k + 1) * sz + j - sz = k * sz + j by rw [Nat.succ_mul]; omega]
    exact ih
theorem RepCat.at {G : GH} {sz : Nat} {rows : List (List Dat)} {xs : List Value} (h : RepCat G sz rows xs) {k : Nat} {r : List Dat} (hk : rows[k]? = some r) : ∃ cs, cs.length = sz ∧ (∀ j u, cs[j]? = some u → xs[k * sz + j]? = some u) ∧ RepRow G r cs := by
  obtain ⟨css, rfl, h2, h3⟩ := h
  have hkl : k < css.length := by rw [h2]; exact (List.getElem?_eq_some_iff.1 hk).1
  obtain ⟨hr, hl⟩ := h3 k r css[k] hk (List.getElem?_eq_getElem hkl)
  refine ⟨css[k], hl, fun j u hj => ?_, hr⟩
  rw [flat_get hkl (fun cs hc => ?_) j (by rw [← hl]; exact (List.getElem?_eq_some_iff.1 hj).1)]
  · exact hj
  · obtain ⟨i, hi, rfl⟩ := List.getElem_of_mem hc
    exact (h3 i rows[i] css[i] (List.getElem?_eq_getElem (by omega)) (List.getElem?_eq_getElem hi)).2
end
section
open Go.RowKit
theorem en209nrm : ∀ args w, (callFunc 209 args).run Tryz.prog w = .ok (.enter 209 args) w := enters Tryz.func209 rfl (by kernel_rfl)
theorem en228nrm : ∀ args w, (callFunc 228 args).run Tryz.prog w = .ok (.enter 228 args) w := enters Tryz.func228 rfl (by kernel_rfl)
theorem en48nrm : ∀ args w, (callFunc 48 args).run Tryz.prog w = .ok (.enter 48 args) w := enters Tryz.func48 rfl (by kernel_rfl)
theorem deleteNil_spec (G : GH) (w0 : World) (hG : Hold G w0) (A : Option Addr) (n c : Nat) (fv : Value) (hv : RepV G (.sl 6 []) (.slice A n c)) :
    Calls Tryz.prog 228 #[.slice A n c, fv] w0 (Ret w0 G fun u G' => RepV G' (.sl 6 []) u) := by
  refine enter (N := 42) (T := [(0, _), (1, _)]) (F := fun k => k < w0.heap.size) (L := []) Tryz.func228 rfl Tryz.ntmps228 rfl rfl hG (fun _ h => h) (fun _ h => by cases h) (fun _ h => by cases h) (fun _ h => by cases h) List.Pairwise.nil ?_; intro a H; refine c_seqR (fun _ hK1 => ?_); refine s_assign H wn rfl rfl ?_; clear H; intro a H; refine hK1 _ _ ?_; clear hK1; refine c_seqR (fun _ hK2 => ?_); (iterate 2 refine s_move H wn rfl rfl ?_; clear H; intro a H); refine s_call en164plr H wn rfl (indexFuncRow _ _ H.hp.ro [] (fun _ => true) _ _ hv (fun x h => by cases h)) rfl ?_; clear H; rintro v10 G10 a w rfl hm10 H; refine s_assign H wn rfl rfl ?_; clear H; intro a H; refine hK2 _ _ ?_; clear hK2; refine c_seq (fun _ hK3 => ?_); refine c_seqR (fun _ hK4 => ?_); refine s_move H wn rfl rfl ?_; clear H; intro a H; refine s_cmp H wn rfl rfl rfl rfl ?_; clear H; intro a H; refine hK4 _ _ ?_; clear hK4; refine c_cond H rfl ?_ ?_
  · intro h12
    try have p12 := of_decide_eq_true h12
    refine c_seqR (fun _ hK5 => ?_); refine s_move H wn rfl rfl ?_; clear H; intro a H; refine s_assign H wn rfl rfl ?_; clear H; intro a H; refine hK5 _ _ ?_; clear hK5; refine c_ret ?_; refine (leave1 H Tryz.results228 (.cons (rv_tmp H rfl) .nil) ?_).1; exact H.hp.ret (hv.mono hm10)
  intro h12
  try have p12 := of_decide_eq_false h12
  exact absurd h12 (by decide)
theorem normalNil_spec (G : GH) (w0 : World) (hG : Hold G w0) (A : Option Addr) (n c : Nat) (hv : RepV G (.sl 11 []) (.slice A n c)) :
    Calls Tryz.prog 209 #[.slice A n c] w0 (Ret w0 G fun u G' => RepV G' (.sl 11 []) u) := by
  have hn : n = 0 := hv.len; refine enter (N := 93) (T := [(0, _)]) (F := fun k => k < w0.heap.size) (L := []) Tryz.func209 rfl Tryz.ntmps209 rfl rfl hG (fun _ h => h) (fun _ h => by cases h) (fun _ h => by cases h) (fun _ h => by cases h) List.Pairwise.nil ?_; intro a H; refine c_seqR (fun _ hK1 => ?_); refine s_assign H wn rfl rfl ?_; clear H; intro a H; refine hK1 _ _ ?_; clear hK1; refine c_seqR (fun _ hK2 => ?_); refine s_assign H wn rfl rfl ?_; clear H; intro a H; refine hK2 _ _ ?_; clear hK2; refine c_seq (fun _ hK3 => ?_); refine c_seqR (fun _ hK4 => ?_); refine s_move H wn rfl rfl ?_; clear H; intro a H; refine s_len un32run H wn rfl rfl ?_; clear H; intro a H; refine s_move H wn rfl rfl ?_; clear H; intro a H; refine hK4 _ _ ?_; clear hK4; refine c_block ?_; skip; refine c_loopS (ι := Unit) (Tc := [(7, _), (8, _)]) (Lc := []) (fun (gh : Unit) => [(3, .slice none 0 0), (9, vi 0)]) (fun (gh : Unit) => []) (fun (gh : Unit) => G) (fun (gh : Unit) => True) (fun (gh : Unit) => 0) (()) (by exact (H).sub ⟨rfl, rfl, rfl, rfl, trivial⟩) ?_ ?_
  · trivial
  clear H; intro gh a w hI H; obtain ⟨u, hgh⟩ : ∃ x, x = gh := ⟨_, rfl⟩; subst hgh; skip; dsimp only [List.cons_append, List.nil_append, List.append_nil] at H; refine c_seqR (fun _ hK5 => ?_); refine s_cmp H wn rfl rfl rfl rfl ?_; clear H; intro a H; refine hK5 _ _ ?_; clear hK5; refine c_seq (fun _ hK6 => ?_); refine c_cond H rfl ?_ ?_
  · intro h10
    try have p10 := of_decide_eq_true h10
    exact absurd p10 (by rw [hn]; decide)
  intro h10
  try have p10 := of_decide_eq_false h10
  refine c_exit ?_; refine hK3 _ _ ?_; clear hK3; refine c_seqR (fun _ hK7 => ?_); refine s_move H wn rfl rfl ?_; clear H; intro a H; refine s_assign H wn rfl rfl ?_; clear H; intro a H; refine hK7 _ _ ?_; clear hK7; refine c_ret ?_; refine (leave1 H Tryz.results209 (.cons (rv_tmp H rfl) .nil) ?_).1; exact H.hp.ret (RepV.nil_ rfl (by decide))
/-- Items of which Normal keeps all as they are. -/
def PlainI (x : ItemD) : Prop := x.flow = [] ∧ x.rows = [] ∧ ¬ x.kind = 7 ∧ (x.kind = 1 → ¬ x.text.toList = [])
/-- No two neighbours are joined. -/
def NoJoin (l : List ItemD) : Prop := ∀ (k : Nat) (h : k + 1 < l.length), ¬ (l[k].kind = 1 ∧ l[k + 1].kind = 1 ∧ l[k].head = l[k + 1].head)
theorem NoJoin.one {l : List ItemD} (h : l.length ≤ 1) : NoJoin l := fun k hk => by omega
set_option maxHeartbeats 2000000 in
theorem normalPlain_spec (G : GH) (w0 : World) (hG : Hold G w0) (l : List ItemD) (v : Value) (hv : RepV G (.sl 11 (l.map ItemD.dat)) v) (hj : NoJoin l) (hp : ∀ x ∈ l, PlainI x) (hz : zItems l ≤ 1073741824) :
    Calls Tryz.prog 209 #[v] w0 (Ret w0 G fun u G' => RepV G' (.sl 11 (l.map ItemD.dat)) u) := by
  obtain ⟨A, c, rfl, hc1, hc2, hg⟩ := hv.slice
  have hml : 4294967297 ≤ maxLen := by decide
  have hll : l.length ≤ zItems l := Nat.le_trans (length_le_txt l) (txtS_le l); rw [List.length_map] at *; refine enter (N := 93) (T := [(0, _)]) (F := fun k => k < w0.heap.size) (L := []) Tryz.func209 rfl Tryz.ntmps209 rfl rfl hG (fun _ h => h) (fun _ h => by cases h) (fun _ h => by cases h) (fun _ h => by cases h) List.Pairwise.nil ?_; intro a H; refine c_seqR (fun _ hK1 => ?_); refine s_assign H wn rfl rfl ?_; clear H; intro a H; refine hK1 _ _ ?_; clear hK1; refine c_seqR (fun _ hK2 => ?_); refine s_assign H wn rfl rfl ?_; clear H; intro a H; refine hK2 _ _ ?_; clear hK2; refine c_seq (fun _ hK3 => ?_); refine c_seqR (fun _ hK4 => ?_); refine s_move H wn rfl rfl ?_; clear H; intro a H; refine s_len un32run H wn rfl rfl ?_; clear H; intro a H; refine s_move H wn rfl rfl ?_; clear H; intro a H; refine hK4 _ _ ?_; clear hK4; refine c_block ?_; skip; refine c_loopS (ι := Nat × Value × List Value × OL × GH) (Tc := [(7, _), (8, _)]) (Lc := []) (fun (gh : Nat × Value × List Value × OL × GH) => [(3, gh.2.1), (9, vi gh.1)]) (fun (gh : Nat × Value × List Value × OL × GH) => [] ++ gh.2.2.2.1) (fun (gh : Nat × Value × List Value × OL × GH) => gh.2.2.2.2) (fun (gh : Nat × Value × List Value × OL × GH) => gh.1 ≤ l.length ∧ IsRow 35 11 gh.2.1 gh.1 gh.2.2.1 gh.2.2.2.1 ∧ RepCat gh.2.2.2.2 11 ((l.map ItemD.dat).take gh.1) gh.2.2.1 ∧ (∀ b o, G b = some o → gh.2.2.2.2 b = some o)) (fun (gh : Nat × Value × List Value × OL × GH) => l.length - gh.1) ((0, .slice none 0 0, [], [], G)) (by exact (H).sub ⟨rfl, rfl, rfl, rfl, trivial⟩) ?_ ?_
  · exact ⟨by omega, IsRow.nil, by simpa using RepCat.nil, fun _ _ h => h⟩
  clear H; intro gh a w hI H; obtain ⟨k, v, xs, Lo, g⟩ := gh; dsimp only at hI H; obtain ⟨hk, hrw, hcat, hgm⟩ := hI; dsimp only [List.cons_append, List.nil_append, List.append_nil] at H; refine c_seqR (fun _ hK5 => ?_); refine s_cmp H wn rfl rfl rfl rfl ?_; clear H; intro a H; refine hK5 _ _ ?_; clear hK5; refine c_seq (fun _ hK6 => ?_); refine c_cond H rfl ?_ ?_
  · intro h10
    try have p10 := of_decide_eq_true h10
    have hk2 : k < l.length := by omega
    obtain ⟨vA, vc, rfl, -, -⟩ := hrw.shape; obtain ⟨b, o, pA, pn, pc, dA, dn, dc, yA, yn, yc, fA, fn, fc, rA, rn, rc, rfl, hrow, hhd, hfl, hrs⟩ := flow_get hk2 hg; replace hrow := fun j u hj => gcell_mono hgm (hrow j u hj); obtain ⟨e1, e2, e3, e4⟩ := hp _ (List.getElem_mem hk2); have hzi := zItems_get hk2; rw [e1] at hfl; rw [e2] at hrs; refine c_skip ?_; refine hK6 _ _ ?_; clear hK6; refine c_seq (fun _ hK7 => ?_); refine c_block ?_; refine c_seqR (fun _ hK8 => ?_); refine s_index un32run ty35run _ H wn rfl rfl rfl (by first | assumption | omega) rfl ?_; clear H; intro a H; refine s_loada ty35run (cs := [_, _, _, _, _, _, _, _, _, _, _]) H wn rfl rfl (fun j v hj => H.hp.gcell (hrow j v hj)) rfl ?_; clear H; intro a H; refine s_alloc ty35run H wn rfl ?_; clear H; intro b5 a w hb5 H; refine s_store ty35run 0 (vs := [_, _, _, _, _, _, _, _, _, _, _]) _ H wn rfl rfl rfl rfl rfl rfl rfl rfl ?_; clear H; intro w H; dsimp only [List.set, setRow] at H; refine hK8 _ _ ?_; clear hK8; refine c_seqR (fun _ hK9 => ?_); refine s_field fd35_4run H wn rfl rfl ?_; clear H; intro a H; refine s_loada ty31run (cs := [_, _, _, _, _]) H wn rfl rfl (H.hp.ocells 0 rfl rfl) rfl ?_; clear H; intro a H; refine s_call en70run H wn rfl (cloneHead_spec _ _ H.hp.ro _ _ _ _ _ _ _ _ _ _ (hhd.mono hgm) (by omega)) rfl ?_; clear H; rintro v15 G15 a w ⟨p15, d15, l15, rfl, hh15⟩ hm15 H; obtain ⟨a1, a2, a3, rfl⟩ := hh15.props.form; obtain ⟨a4, a5, a6, rfl⟩ := hh15.dels.form; obtain ⟨a7, a8, a9, rfl⟩ := hh15.layers.form; refine s_field fd35_4run H wn rfl rfl ?_; clear H; intro a H; refine s_store ty31run 0 (vs := [_, _, _, _, _]) _ H wn rfl rfl rfl rfl rfl rfl rfl rfl ?_; clear H; intro w H; dsimp only [List.set, setRow] at H; refine hK9 _ _ ?_; clear hK9; refine c_seqR (fun _ hK10 => ?_); refine s_field fd35_5run H wn rfl rfl ?_; clear H; intro a H; refine s_load ty32run H wn rfl (H.hp.ocell 0 rfl rfl) rfl ?_; clear H; intro a H; refine s_call en209nrm H wn rfl (normalNil_spec _ _ H.hp.ro _ _ _ (hfl.mono fun b o h => hm15 b o (hgm b o h))) rfl ?_; clear H; rintro v19 G19 a w hp19 hm19 H; obtain ⟨A19, n19, c19, rfl⟩ := hp19.form; refine s_field fd35_5run H wn rfl rfl ?_; clear H; intro a H; refine s_store ty32run 0 (vs := [_]) _ H wn rfl rfl rfl rfl rfl rfl rfl rfl ?_; clear H; intro w H; dsimp only [List.set, setRow] at H; refine hK10 _ _ ?_; clear hK10; refine c_seqR (fun _ hK11 => ?_); refine s_field fd35_6run H wn rfl rfl ?_; clear H; intro a H; refine s_load ty33run H wn rfl (H.hp.ocell 0 rfl rfl) rfl ?_; clear H; intro a H; refine s_call en148run H wn rfl (eachRow_spec _ _ H.hp.ro [] _ _ (hrs.mono fun b o h => hm19 b o (hm15 b o (hgm b o h))) (by decide) (fun x h => by cases h)) rfl ?_; clear H; rintro v23 G23 a w hp23 hm23 H; obtain ⟨A23, n23, c23, rfl⟩ := hp23.form; refine s_call en228nrm H wn rfl (deleteNil_spec _ _ H.hp.ro _ _ _ _ hp23) rfl ?_; clear H; rintro v24 G24 a w hp24 hm24 H; obtain ⟨A24, n24, c24, rfl⟩ := hp24.form; refine s_field fd35_6run H wn rfl rfl ?_; clear H; intro a H; refine s_store ty33run 0 (vs := [_]) _ H wn rfl rfl rfl rfl rfl rfl rfl rfl ?_; clear H; intro w H; dsimp only [List.set, setRow] at H; refine hK11 _ _ ?_; clear hK11; refine c_seqR (fun _ hK12 => ?_); refine s_move H wn rfl rfl ?_; clear H; intro a H; refine s_len un32run H wn rfl rfl ?_; clear H; intro a H; refine s_assign H wn rfl rfl ?_; clear H; intro a H; refine hK12 _ _ ?_; clear hK12; refine c_block ?_; refine c_seqR (fun _ hK13 => ?_); refine s_field fd35_0run H wn rfl rfl ?_; clear H; intro a H; refine s_load ty3run H wn rfl (H.hp.ocell 0 rfl rfl) rfl ?_; clear H; intro a H; refine s_cmp H wn rfl rfl rfl rfl ?_; clear H; intro a H; refine s_move H wn rfl rfl ?_; clear H; intro a H; refine s_split H 36 rfl ?_ ?_
    · intro h36
      try have p36 := of_decide_eq_true h36
      exact absurd p36 e3
    intro h36
    try have p36 := of_decide_eq_false h36
    (iterate 4 refine s_skip H rfl rfl h36 rfl ?_; clear H; intro a H); refine s_pick_f H wn rfl h36 rfl rfl ?_; clear H; intro a H; refine s_move H wn rfl rfl ?_; clear H; intro a H; refine s_field fd35_0run H (wg H rfl rfl rfl) rfl rfl ?_; clear H; intro a H; refine s_load ty3run H (wg H rfl rfl rfl) rfl (H.hp.ocell 0 rfl rfl) rfl ?_; clear H; intro a H; refine s_cmp H (wg H rfl rfl rfl) rfl rfl rfl rfl ?_; clear H; intro a H; refine s_move H (wg H rfl rfl rfl) rfl rfl ?_; clear H; intro a H; refine s_split H 46 rfl ?_ ?_
    · intro h46
      try have p46 := of_decide_eq_true h46
      refine s_field fd35_3run H (wg H rfl rfl h46) rfl rfl ?_; clear H; intro a H; refine s_load ty9run H (wg H rfl rfl h46) rfl (H.hp.ocell 0 rfl rfl) rfl ?_; clear H; intro a H; refine s_eqstr H (wg H rfl rfl h46) rfl rfl rfl ?_; clear H; intro a H; refine s_pick_t H (wg H rfl rfl rfl) rfl h46 rfl rfl ?_; clear H; intro a H; refine s_pick_f H wn rfl rfl rfl rfl ?_; clear H; intro a H; refine s_assign H wn rfl rfl ?_; clear H; intro a H; refine hK13 _ _ ?_; clear hK13; refine c_cond H rfl ?_ ?_
      · intro h32
        try have p32 := of_decide_eq_true h32
        exact absurd h32 (by simpa using e4 p46)
      intro h32
      try have p32 := of_decide_eq_false h32
      refine c_seq (fun _ hK14 => ?_); obtain ⟨cs31, hcs31⟩ : ∃ x, x = [vi l[k].kind, vi l[k].code, vi l[k].id, .string l[k].text, .slice a1 a2 a3, vi l[k].head.marks.ins, vi l[k].head.marks.move, .slice a4 a5 a6, .slice a7 a8 a9, .slice A19 n19 c19, .slice A24 n24 c24] := ⟨_, rfl⟩
      have hr31 : RepRow G24 l[k].dat cs31 := by
        rw [hcs31]; exact RepRow.mkItem (hh15.mono fun b o h => hm24 b o (hm23 b o (hm19 b o h))) (by rw [e1]; exact hp19.mono fun b o h => hm24 b o (hm23 b o h)) (by rw [e2]; exact hp24)
      have hA1 : (l.map ItemD.dat).take (k + 1) = (l.map ItemD.dat).take k ++ [l[k].dat] := by rw [List.take_succ_eq_append_getElem (by simpa using hk2)]; simp
      have hcat24 := hcat.mono fun b o h => hm24 b o (hm23 b o (hm19 b o (hm15 b o h)))
      obtain ⟨bo, pk, pp, pd, pl, hprev⟩ : ∃ (bo : Nat) (pk : HeadD × Int) (pp pd pl : Value), 0 < (k : Int) → ∃ (h : k - 1 < l.length), vA = some ⟨bo, 0, none⟩ ∧ pk = (l[k - 1].head, l[k - 1].kind) ∧ xs[(k - 1) * 11]? = some (vi pk.2) ∧ HeadR G24 pk.1 pp pd pl ∧ ∀ j u, [pp, vi pk.1.marks.ins, vi pk.1.marks.move, pd, pl][j]? = some u → xs[(k - 1) * 11 + 4 + j]? = some u := by
        by_cases h0 : 0 < k
        · obtain ⟨bo, hbo⟩ := hrw.ptr h0; obtain ⟨cs, hcl, hcx, hcr⟩ := hcat24.at (k := k - 1) (r := l[k - 1].dat) (by rw [List.getElem?_take, if_pos (by omega)]; simp [show k - 1 < l.length by omega]); obtain ⟨qA, qn, qc, sA, sn, sc, tA, tn, tc, fA2, fn2, fc2, rA2, rn2, rc2, rfl, hh, -, -⟩ := hcr.item; refine ⟨bo, (l[k - 1].head, l[k - 1].kind), .slice qA qn qc, .slice sA sn sc, .slice tA tn tc, fun _ => ⟨by omega, hbo, rfl, hcx 0 _ rfl, hh, fun j u hj => ?_⟩⟩; rw [Nat.add_assoc]
          exact hcx (4 + j) u (by
            match j, hj with
            | 0, hj => exact hj
            | 1, hj => exact hj
            | 2, hj => exact hj
            | 3, hj => exact hj
            | 4, hj => exact hj)
        exact ⟨0, (⟨[], ⟨0, 0, [], []⟩⟩, 0), .slice none 0 0, .slice none 0 0, .slice none 0 0, fun h => by omega⟩
      have hnj : l[k].kind = 1 → 0 < (k : Int) → pk.2 = 1 → ¬ pk.1 = l[k].head := by
        intro c1 c2 c3 e; obtain ⟨hk1, -, hpk, -⟩ := hprev c2; have hjk := hj (k - 1) (by omega); rw [hpk] at e c3
        simp only [show k - 1 + 1 = k by omega] at hjk
        exact hjk ⟨c3, c1, e⟩
      have c1 : l[k].kind = 1 := p46
      by_cases c2 : 0 < (k : Int)
      · skip
        by_cases c3 : pk.2 = 1
        · skip; refine c_drawI (hmx) [[], [0], [0, 1], [0, 1, 2], [0, 1, 2, 3], [0, 1, 2, 3, 4], [0, 1, 2, 3, 4, 5], [0, 1, 2, 3, 4, 5, 6], [0, 1, 2, 3, 4, 5, 6, 7], [0, 1, 2, 3, 4, 5, 6, 7], [0, 1, 2, 3, 4, 5, 6, 7, 9], [0, 1, 2, 3, 4, 5, 6, 7, 8, 9, 10], [0, 1, 2, 3, 4, 5, 6, 7, 8, 9, 10, 11], [0, 1, 2, 3, 4, 5, 6, 7, 8, 9, 10, 11, 12], [0, 1, 2, 3, 4, 5, 6, 7, 8, 9, 10, 11, 12, 13], [0, 1, 2, 3, 4, 5, 6, 7, 8, 9, 10, 11, 12, 13, 14], [0, 1, 2, 3, 4, 5, 6, 7, 8, 9, 10, 11, 12, 13, 14, 15], [0, 1, 2, 3, 4, 5, 6, 7, 8, 9, 10, 11, 12, 13, 14, 15, 16], [0, 1, 2, 3, 4, 5, 6, 7, 8, 9, 10, 11, 12, 13, 14, 15, 16], [0, 1, 2, 3, 4, 5, 6, 7, 8, 9, 10, 11, 12, 13, 14, 15, 16, 18], [0, 1, 2, 3, 4, 5, 6, 7, 8, 9, 10, 11, 12, 13, 14, 15, 16, 17, 18, 19], [0, 1, 2, 3, 4, 5, 6, 7, 8, 9, 10, 11, 12, 13, 14, 15, 16, 17, 18, 19, 20], [0, 1, 2, 3, 4, 5, 6, 7, 8, 9, 10, 11, 12, 13, 14, 15, 16, 17, 18, 19, 20, 21], [0, 1, 2, 3, 4, 5, 6, 7, 8, 9, 10, 11, 12, 13, 14, 15, 16], [0, 1, 2, 3, 4, 5, 6, 7, 8, 9, 10, 11, 12, 13, 14, 15, 16, 23], [0, 1, 2, 3, 4, 5, 6, 7, 8, 9, 10, 11, 12, 13, 14, 15, 16, 17, 18, 19, 20, 21, 22, 23, 24], [0, 1, 2, 3, 4, 5, 6, 7, 8, 9, 10, 11, 12, 13, 14, 15, 16, 17, 18, 19, 20, 21, 22, 23, 24, 25], [0, 1, 2, 3, 4, 5, 6, 7, 8, 9, 10, 11, 12, 13, 14, 15, 16, 17, 18, 19, 20, 21, 22, 23, 24, 25, 26]] [] (by kernel_rfl) (by kernel_rfl) (fun (ix_ : Nat) (v : Value) (G : GH) => match ix_ with | 0 => v = .pointer (some ⟨b5, 0, none⟩) | 1 => v = vi l[k].kind | 2 => v = .bool (decide (l[k].kind = 1)) | 3 => v = .bool (decide (l[k].kind = 1)) | 4 => v = vi k | 5 => v = .bool (decide (0 < (k : Int))) | 6 => v = .bool (decide (0 < (k : Int))) | 7 => v = .bool (decide (0 < (k : Int))) | 8 => v = .slice (some ⟨bo, 0, none⟩) k vc | 9 => v = vi k | 10 => v = vi ((k - 1 : Nat) : Int) | 11 => v = .pointer (some ⟨bo, 0 + (k - 1) * 11, none⟩) | 12 => v = .pointer (some ⟨bo, 0 + (k - 1) * 11 + 0, none⟩) | 13 => v = vi pk.2 | 14 => v = .bool (decide (pk.2 = 1)) | 15 => v = .bool (decide (pk.2 = 1)) | 16 => v = .bool (decide (pk.2 = 1)) | 17 => v = .slice (some ⟨bo, 0, none⟩) k vc | 18 => v = vi k | 19 => v = vi ((k - 1 : Nat) : Int) | 20 => v = .pointer (some ⟨bo, 0 + (k - 1) * 11, none⟩) | 21 => v = .pointer (some ⟨bo, 0 + (k - 1) * 11 + 4, none⟩) | 22 => v = hdV pk.1 pp pd pl | 23 => v = .pointer (some ⟨b5, 4, none⟩) | 24 => v = hdV l[k].head (.slice a1 a2 a3) (.slice a4 a5 a6) (.slice a7 a8 a9) | 25 => v = .bool false | 26 => v = .bool false | 27 => v = .bool false | _ => True) (fun _ _ _ _ _ h => h) H ?_ ?_
          · clear H; refine (allI_cons ?_ (allI_cons ?_ (allI_cons ?_ (allI_cons ?_ (allI_cons ?_ (allI_cons ?_ (allI_cons ?_ (allI_cons ?_ (allI_cons ?_ (allI_cons ?_ (allI_cons ?_ (allI_cons ?_ (allI_cons ?_ (allI_cons ?_ (allI_cons ?_ (allI_cons ?_ (allI_cons ?_ (allI_cons ?_ (allI_cons ?_ (allI_cons ?_ (allI_cons ?_ (allI_cons ?_ (allI_cons ?_ (allI_cons ?_ (allI_cons ?_ (allI_cons ?_ (allI_cons ?_ (allI_cons ?_ allI_nil))))))))))))))))))))))))))))
            · refine opI [] rfl trivial (by kernel_rfl) (fun _ _ _ _ _ h => h) rfl rfl ?_; intro Sd_ a w G1 hG HT H fin; refine s_field fd35_0run H wn rfl rfl ?_; clear H; intro a H; exact fin H (fun _ _ h => h) (rfl)
            · refine opI [(0, 53, _)] rfl ⟨fun _ _ h => h, trivial⟩ (by kernel_rfl) (fun _ _ _ _ _ h => h) rfl rfl ?_; intro Sd_ a w G1 hG HT H fin; refine s_load ty3run H wn rfl (H.hp.ocell 0 rfl rfl) rfl ?_; clear H; intro a H; exact fin H (fun _ _ h => h) (rfl)
            · refine opI [(1, 54, _)] rfl ⟨fun _ _ h => h, trivial⟩ (by kernel_rfl) (fun _ _ _ _ _ h => h) rfl rfl ?_; intro Sd_ a w G1 hG HT H fin; refine s_cmp H wn rfl rfl rfl rfl ?_; clear H; intro a H; exact fin H (fun _ _ h => h) (rfl)
            · refine opI [(2, 55, _)] rfl ⟨fun _ _ h => h, trivial⟩ (by kernel_rfl) (fun _ _ _ _ _ h => h) rfl rfl ?_; intro Sd_ a w G1 hG HT H fin; refine s_move H wn rfl rfl ?_; clear H; intro a H; exact fin H (fun _ _ h => h) (rfl)
            · refine opI [(3, 56, _)] rfl ⟨fun _ _ h => h, trivial⟩ (by kernel_rfl) (fun _ _ _ _ _ h => h) rfl rfl ?_; intro Sd_ a w G1 hG HT H fin; refine s_move H (wg H rfl rfl (decide_eq_true c1)) rfl rfl ?_; clear H; intro a H; exact fin H (fun _ _ h => h) (rfl)
            · refine opI [(4, 57, _), (3, 56, _)] rfl ⟨fun _ _ h => h, fun _ _ h => h, trivial⟩ (by kernel_rfl) (fun _ _ _ _ _ h => h) rfl rfl ?_; intro Sd_ a w G1 hG HT H fin; refine s_cmp H (wg H rfl rfl (decide_eq_true c1)) rfl rfl rfl rfl ?_; clear H; intro a H; exact fin H (fun _ _ h => h) (rfl)
            · refine opI [(3, 56, _), (5, 58, _)] rfl ⟨fun _ _ h => h, fun _ _ h => h, trivial⟩ (by kernel_rfl) (fun _ _ _ _ _ h => h) rfl rfl ?_; intro Sd_ a w G1 hG HT H fin; refine s_pick_t H wn rfl (decide_eq_true c1) rfl rfl ?_; clear H; intro a H; exact fin H (fun _ _ h => h) (rfl)
            · refine opI [(6, 59, _)] rfl ⟨fun _ _ h => h, trivial⟩ (by kernel_rfl) (fun _ _ _ _ _ h => h) rfl rfl ?_; intro Sd_ a w G1 hG HT H fin; refine s_move H wn rfl rfl ?_; clear H; intro a H; exact fin H (fun _ _ h => h) (rfl)
            · refine opI [(7, 60, _)] rfl ⟨fun _ _ h => h, trivial⟩ (by kernel_rfl) (fun _ _ _ _ _ h => h) rfl rfl ?_; intro Sd_ a w G1 hG HT H fin; refine s_move H (wg H rfl rfl (decide_eq_true c2)) rfl rfl ?_; clear H; intro a H; exact fin H (fun _ _ h => h) (by first | rfl | exact congrArg (fun A => Value.slice A k vc) (Exists.elim (hprev c2) fun _ h => h.1))
            · refine opI [(7, 60, _)] rfl ⟨fun _ _ h => h, trivial⟩ (by kernel_rfl) (fun _ _ _ _ _ h => h) rfl rfl ?_; intro Sd_ a w G1 hG HT H fin; refine s_move H (wg H rfl rfl (decide_eq_true c2)) rfl rfl ?_; clear H; intro a H; exact fin H (fun _ _ h => h) (rfl)
            · refine opI [(9, 62, _), (7, 60, _)] rfl ⟨fun _ _ h => h, fun _ _ h => h, trivial⟩ (by kernel_rfl) (fun _ _ _ _ _ h => h) rfl rfl ?_; intro Sd_ a w G1 hG HT H fin; refine s_sub _ H (wg H rfl rfl (decide_eq_true c2)) rfl rfl rfl (by omega) (by omega) rfl ?_; clear H; intro a H; exact fin H (fun _ _ h => h) (by first | rfl | exact congrArg vi (by omega))
            · refine opI [(8, 61, _), (10, 63, _), (7, 60, _)] rfl ⟨fun _ _ h => h, fun _ _ h => h, fun _ _ h => h, trivial⟩ (by kernel_rfl) (fun _ _ _ _ _ h => h) rfl rfl ?_; intro Sd_ a w G1 hG HT H fin; refine s_index un32run ty35run _ H (wg H rfl rfl (decide_eq_true c2)) rfl rfl rfl (by first | assumption | omega) rfl ?_; clear H; intro a H; exact fin H (fun _ _ h => h) (rfl)
            · refine opI [(11, 64, _), (7, 60, _)] rfl ⟨fun _ _ h => h, fun _ _ h => h, trivial⟩ (by kernel_rfl) (fun _ _ _ _ _ h => h) rfl rfl ?_; intro Sd_ a w G1 hG HT H fin; refine s_field fd35_0run H (wg H rfl rfl (decide_eq_true c2)) rfl rfl ?_; clear H; intro a H; exact fin H (fun _ _ h => h) (rfl)
            · refine opI [(12, 65, _), (7, 60, _)] rfl ⟨fun _ _ h => h, fun _ _ h => h, trivial⟩ (by kernel_rfl) (fun _ _ _ _ _ h => h) rfl rfl ?_; intro Sd_ a w G1 hG HT H fin; obtain ⟨_, rfl, _, hkd, _⟩ := hprev c2; refine s_load ty3run H (wg H rfl rfl (decide_eq_true c2)) rfl (hrw.at H.hp (fun x hx => List.mem_cons_of_mem _ hx) (by rw [Nat.zero_add]; exact hkd)) rfl ?_; clear H; intro a H; exact fin H (fun _ _ h => h) (rfl)
            · refine opI [(13, 66, _), (7, 60, _)] rfl ⟨fun _ _ h => h, fun _ _ h => h, trivial⟩ (by kernel_rfl) (fun _ _ _ _ _ h => h) rfl rfl ?_; intro Sd_ a w G1 hG HT H fin; refine s_cmp H (wg H rfl rfl (decide_eq_true c2)) rfl rfl rfl rfl ?_; clear H; intro a H; exact fin H (fun _ _ h => h) (rfl)
            · refine opI [(7, 60, _), (14, 67, _)] rfl ⟨fun _ _ h => h, fun _ _ h => h, trivial⟩ (by kernel_rfl) (fun _ _ _ _ _ h => h) rfl rfl ?_; intro Sd_ a w G1 hG HT H fin; refine s_pick_t H wn rfl (decide_eq_true c2) rfl rfl ?_; clear H; intro a H; exact fin H (fun _ _ h => h) (rfl)
            · refine opI [(15, 68, _)] rfl ⟨fun _ _ h => h, trivial⟩ (by kernel_rfl) (fun _ _ _ _ _ h => h) rfl rfl ?_; intro Sd_ a w G1 hG HT H fin; refine s_move H wn rfl rfl ?_; clear H; intro a H; exact fin H (fun _ _ h => h) (rfl)
            · refine opI [(16, 69, _)] rfl ⟨fun _ _ h => h, trivial⟩ (by kernel_rfl) (fun _ _ _ _ _ h => h) rfl rfl ?_; intro Sd_ a w G1 hG HT H fin; refine s_move H (wg H rfl rfl (decide_eq_true c3)) rfl rfl ?_; clear H; intro a H; exact fin H (fun _ _ h => h) (by first | rfl | exact congrArg (fun A => Value.slice A k vc) (Exists.elim (hprev c2) fun _ h => h.1))
            · refine opI [(16, 69, _)] rfl ⟨fun _ _ h => h, trivial⟩ (by kernel_rfl) (fun _ _ _ _ _ h => h) rfl rfl ?_; intro Sd_ a w G1 hG HT H fin; refine s_move H (wg H rfl rfl (decide_eq_true c3)) rfl rfl ?_; clear H; intro a H; exact fin H (fun _ _ h => h) (rfl)
            · refine opI [(18, 71, _), (16, 69, _)] rfl ⟨fun _ _ h => h, fun _ _ h => h, trivial⟩ (by kernel_rfl) (fun _ _ _ _ _ h => h) rfl rfl ?_; intro Sd_ a w G1 hG HT H fin; refine s_sub _ H (wg H rfl rfl (decide_eq_true c3)) rfl rfl rfl (by omega) (by omega) rfl ?_; clear H; intro a H; exact fin H (fun _ _ h => h) (by first | rfl | exact congrArg vi (by omega))
            · refine opI [(17, 70, _), (19, 72, _), (16, 69, _)] rfl ⟨fun _ _ h => h, fun _ _ h => h, fun _ _ h => h, trivial⟩ (by kernel_rfl) (fun _ _ _ _ _ h => h) rfl rfl ?_; intro Sd_ a w G1 hG HT H fin; refine s_index un32run ty35run _ H (wg H rfl rfl (decide_eq_true c3)) rfl rfl rfl (by first | assumption | omega) rfl ?_; clear H; intro a H; exact fin H (fun _ _ h => h) (rfl)
            · refine opI [(20, 73, _), (16, 69, _)] rfl ⟨fun _ _ h => h, fun _ _ h => h, trivial⟩ (by kernel_rfl) (fun _ _ _ _ _ h => h) rfl rfl ?_; intro Sd_ a w G1 hG HT H fin; refine s_field fd35_4run H (wg H rfl rfl (decide_eq_true c3)) rfl rfl ?_; clear H; intro a H; exact fin H (fun _ _ h => h) (rfl)
            · refine opI [(21, 74, _), (16, 69, _)] rfl ⟨fun _ _ h => h, fun _ _ h => h, trivial⟩ (by kernel_rfl) (fun _ _ _ _ _ h => h) rfl rfl ?_; intro Sd_ a w G1 hG HT H fin; obtain ⟨_, rfl, _, _, _, hhx⟩ := hprev c2; refine s_loada ty31run (cs := [pp, vi pk.1.marks.ins, vi pk.1.marks.move, pd, pl]) H (wg H rfl rfl (decide_eq_true c3)) rfl rfl (fun j u hj => hrw.at H.hp (fun x hx => List.mem_cons_of_mem _ hx) (by rw [Nat.zero_add]; exact hhx j u hj)) rfl ?_; clear H; intro a H; exact fin H (fun _ _ h => h) (rfl)
            · refine opI [(16, 69, _)] rfl ⟨fun _ _ h => h, trivial⟩ (by kernel_rfl) (fun _ _ _ _ _ h => h) rfl rfl ?_; intro Sd_ a w G1 hG HT H fin; refine s_field fd35_4run H (wg H rfl rfl (decide_eq_true c3)) rfl rfl ?_; clear H; intro a H; exact fin H (fun _ _ h => h) (rfl)
            · refine opI [(23, 76, _), (16, 69, _)] rfl ⟨fun _ _ h => h, fun _ _ h => h, trivial⟩ (by kernel_rfl) (fun _ _ _ _ _ h => h) rfl rfl ?_; intro Sd_ a w G1 hG HT H fin; refine s_loada ty31run (cs := [_, _, _, _, _]) H (wg H rfl rfl (decide_eq_true c3)) rfl rfl (H.hp.ocells 0 rfl rfl) rfl ?_; clear H; intro a H; exact fin H (fun _ _ h => h) (rfl)
            · refine opI [(22, 75, _), (24, 77, _), (16, 69, _)] rfl ⟨fun _ _ h => h, fun _ _ h => h, fun _ _ h => h, trivial⟩ (by kernel_rfl) (fun _ _ _ _ _ h => h) rfl rfl ?_; intro Sd_ a w G1 hG HT H fin; refine s_call en48nrm H (wg H rfl rfl (decide_eq_true c3)) rfl (equalHead_spec _ _ H.hp.ro pk.1 l[k].head _ _ _ _ _ _ (by obtain ⟨_, _, _, _, hh, _⟩ := hprev c2; exact hh.mono hG) (hh15.mono fun b o h => hG b o (hm24 b o (hm23 b o (hm19 b o h))))) rfl ?_; clear H; rintro v78 G78 a w rfl hGm78 H; exact fin H hGm78 (by first | rfl | exact congrArg Value.bool (decide_eq_false (hnj c1 c2 c3)))
            · refine opI [(16, 69, _), (25, 78, _)] rfl ⟨fun _ _ h => h, fun _ _ h => h, trivial⟩ (by kernel_rfl) (fun _ _ _ _ _ h => h) rfl rfl ?_; intro Sd_ a w G1 hG HT H fin; refine s_pick_t H wn rfl (decide_eq_true c3) rfl rfl ?_; clear H; intro a H; exact fin H (fun _ _ h => h) (rfl)
            refine opI [(26, 79, _)] rfl ⟨fun _ _ h => h, trivial⟩ (by kernel_rfl) (fun _ _ _ _ _ h => h) rfl rfl ?_; intro Sd_ a w G1 hG HT H fin; refine s_assign H wn rfl rfl ?_; clear H; intro a H; exact fin H (fun _ _ h => h) (rfl)
          clear H; intro a w G hGm11 H hv; obtain ⟨u52, hu52, hp52⟩ := hv 27 52 (by decide) rfl; obtain rfl : u52 = .bool false := hp52; have H := H.addS hu52; clear hv; refine wl_nil ⟨rfl, ?_⟩; refine hK14 _ _ ?_; clear hK14; refine c_cond_f H rfl rfl ?_; refine c_region ?_; refine s_move H wn rfl rfl ?_; clear H; intro a H; refine s_loada ty35run (cs := [_, _, _, _, _, _, _, _, _, _, _]) H wn rfl rfl (H.hp.ocells 0 rfl rfl) rfl ?_; clear H; intro a H; refine s_buildSlice un32run ty35run [_, _, _, _, _, _, _, _, _, _, _] [_, _, _, _, _, _, _, _, _, _, _] H wn rfl rfl rfl rfl rfl (by intro i q h; match i, h with | 0, h => exact h | n + 1, h => simp at h) rfl rfl ?_; clear H; intro b30 a w hb30 H; refine s_append (Li := [_, _]) (Lo := Lo) (news := cs31) un32run ty35run rfl rfl H wn rfl rfl hrw (by rw [hcs31]; rfl) (by rw [hcs31]; exact H.hp.ocells 0 rfl rfl) hr31.one (by omega) (by omega) rfl ?_; clear H; intro v31 Lo31 a w hrw31 H; refine s_assign H wn rfl rfl ?_; clear H; intro a H; refine wl_nil ?_; refine hK7 _ _ ?_; clear hK7; refine c_region ?_; refine s_add _ H wn rfl rfl rfl (by omega) (by omega) rfl ?_; clear H; intro a H; refine s_move H wn rfl rfl ?_; clear H; intro a H; refine wl_nil ?_; refine loop_end ((k + 1, v31, xs ++ cs31, Lo31, G)) (by exact (H.pickT (Pl := [_, _]) (Pl' := []) [] (by decide) rfl).sub ⟨rfl, rfl, rfl, rfl, trivial⟩) ?_ ?_
          · (try dsimp only); exact ⟨by omega, hrw31, by rw [hA1]; exact (hcat.mono (fun b o h => hGm11 b o (hm24 b o (hm23 b o (hm19 b o (hm15 b o h)))))).snoc (hr31.mono hGm11) (by rw [hcs31]; rfl), fun b o h => hGm11 b o (hm24 b o (hm23 b o (hm19 b o (hm15 b o (hgm b o h)))))⟩
          first | omega | (dsimp only; omega)
        skip; refine c_drawI (hmx) [[], [0], [0, 1], [0, 1, 2], [0, 1, 2, 3], [0, 1, 2, 3, 4], [0, 1, 2, 3, 4, 5], [0, 1, 2, 3, 4, 5, 6], [0, 1, 2, 3, 4, 5, 6, 7], [0, 1, 2, 3, 4, 5, 6, 7], [0, 1, 2, 3, 4, 5, 6, 7, 9], [0, 1, 2, 3, 4, 5, 6, 7, 8, 9, 10], [0, 1, 2, 3, 4, 5, 6, 7, 8, 9, 10, 11], [0, 1, 2, 3, 4, 5, 6, 7, 8, 9, 10, 11, 12], [0, 1, 2, 3, 4, 5, 6, 7, 8, 9, 10, 11, 12, 13], [0, 1, 2, 3, 4, 5, 6, 7, 8, 9, 10, 11, 12, 13, 14], [0, 1, 2, 3, 4, 5, 6, 7, 8, 9, 10, 11, 12, 13, 14, 15], [0, 1, 2, 3, 4, 5, 6, 7, 8, 9, 10, 11, 12, 13, 14, 15, 16], [0, 1, 2, 3, 4, 5, 6, 7, 8, 9, 10, 11, 12, 13, 14, 15, 16], [0, 1, 2, 3, 4, 5, 6, 7, 8, 9, 10, 11, 12, 13, 14, 15, 16, 18], [0, 1, 2, 3, 4, 5, 6, 7, 8, 9, 10, 11, 12, 13, 14, 15, 16, 17, 18, 19], [0, 1, 2, 3, 4, 5, 6, 7, 8, 9, 10, 11, 12, 13, 14, 15, 16, 17, 18, 19, 20], [0, 1, 2, 3, 4, 5, 6, 7, 8, 9, 10, 11, 12, 13, 14, 15, 16, 17, 18, 19, 20, 21], [0, 1, 2, 3, 4, 5, 6, 7, 8, 9, 10, 11, 12, 13, 14, 15, 16], [0, 1, 2, 3, 4, 5, 6, 7, 8, 9, 10, 11, 12, 13, 14, 15, 16, 23], [0, 1, 2, 3, 4, 5, 6, 7, 8, 9, 10, 11, 12, 13, 14, 15, 16, 17, 18, 19, 20, 21, 22, 23, 24], [0, 1, 2, 3, 4, 5, 6, 7, 8, 9, 10, 11, 12, 13, 14, 15, 16, 17, 18, 19, 20, 21, 22, 23, 24, 25], [0, 1, 2, 3, 4, 5, 6, 7, 8, 9, 10, 11, 12, 13, 14, 15, 16, 17, 18, 19, 20, 21, 22, 23, 24, 25, 26]] [] (by kernel_rfl) (by kernel_rfl) (fun (ix_ : Nat) (v : Value) (G : GH) => match ix_ with | 0 => v = .pointer (some ⟨b5, 0, none⟩) | 1 => v = vi l[k].kind | 2 => v = .bool (decide (l[k].kind = 1)) | 3 => v = .bool (decide (l[k].kind = 1)) | 4 => v = vi k | 5 => v = .bool (decide (0 < (k : Int))) | 6 => v = .bool (decide (0 < (k : Int))) | 7 => v = .bool (decide (0 < (k : Int))) | 8 => v = .slice (some ⟨bo, 0, none⟩) k vc | 9 => v = vi k | 10 => v = vi ((k - 1 : Nat) : Int) | 11 => v = .pointer (some ⟨bo, 0 + (k - 1) * 11, none⟩) | 12 => v = .pointer (some ⟨bo, 0 + (k - 1) * 11 + 0, none⟩) | 13 => v = vi pk.2 | 14 => v = .bool (decide (pk.2 = 1)) | 15 => v = .bool (decide (pk.2 = 1)) | 16 => v = .bool (decide (pk.2 = 1)) | 17 => v = undef | 18 => v = undef | 19 => v = undef | 20 => v = undef | 21 => v = undef | 22 => v = undef | 23 => v = undef | 24 => v = undef | 25 => v = undef | 26 => v = .bool false | 27 => v = .bool false | _ => True) (fun _ _ _ _ _ h => h) H ?_ ?_
        · clear H; refine (allI_cons ?_ (allI_cons ?_ (allI_cons ?_ (allI_cons ?_ (allI_cons ?_ (allI_cons ?_ (allI_cons ?_ (allI_cons ?_ (allI_cons ?_ (allI_cons ?_ (allI_cons ?_ (allI_cons ?_ (allI_cons ?_ (allI_cons ?_ (allI_cons ?_ (allI_cons ?_ (allI_cons ?_ (allI_cons ?_ (allI_cons ?_ (allI_cons ?_ (allI_cons ?_ (allI_cons ?_ (allI_cons ?_ (allI_cons ?_ (allI_cons ?_ (allI_cons ?_ (allI_cons ?_ (allI_cons ?_ allI_nil))))))))))))))))))))))))))))
          · refine opI [] rfl trivial (by kernel_rfl) (fun _ _ _ _ _ h => h) rfl rfl ?_; intro Sd_ a w G1 hG HT H fin; refine s_field fd35_0run H wn rfl rfl ?_; clear H; intro a H; exact fin H (fun _ _ h => h) (rfl)
          · refine opI [(0, 53, _)] rfl ⟨fun _ _ h => h, trivial⟩ (by kernel_rfl) (fun _ _ _ _ _ h => h) rfl rfl ?_; intro Sd_ a w G1 hG HT H fin; refine s_load ty3run H wn rfl (H.hp.ocell 0 rfl rfl) rfl ?_; clear H; intro a H; exact fin H (fun _ _ h => h) (rfl)
          · refine opI [(1, 54, _)] rfl ⟨fun _ _ h => h, trivial⟩ (by kernel_rfl) (fun _ _ _ _ _ h => h) rfl rfl ?_; intro Sd_ a w G1 hG HT H fin; refine s_cmp H wn rfl rfl rfl rfl ?_; clear H; intro a H; exact fin H (fun _ _ h => h) (rfl)
          · refine opI [(2, 55, _)] rfl ⟨fun _ _ h => h, trivial⟩ (by kernel_rfl) (fun _ _ _ _ _ h => h) rfl rfl ?_; intro Sd_ a w G1 hG HT H fin; refine s_move H wn rfl rfl ?_; clear H; intro a H; exact fin H (fun _ _ h => h) (rfl)
          · refine opI [(3, 56, _)] rfl ⟨fun _ _ h => h, trivial⟩ (by kernel_rfl) (fun _ _ _ _ _ h => h) rfl rfl ?_; intro Sd_ a w G1 hG HT H fin; refine s_move H (wg H rfl rfl (decide_eq_true c1)) rfl rfl ?_; clear H; intro a H; exact fin H (fun _ _ h => h) (rfl)
          · refine opI [(4, 57, _), (3, 56, _)] rfl ⟨fun _ _ h => h, fun _ _ h => h, trivial⟩ (by kernel_rfl) (fun _ _ _ _ _ h => h) rfl rfl ?_; intro Sd_ a w G1 hG HT H fin; refine s_cmp H (wg H rfl rfl (decide_eq_true c1)) rfl rfl rfl rfl ?_; clear H; intro a H; exact fin H (fun _ _ h => h) (rfl)
          · refine opI [(3, 56, _), (5, 58, _)] rfl ⟨fun _ _ h => h, fun _ _ h => h, trivial⟩ (by kernel_rfl) (fun _ _ _ _ _ h => h) rfl rfl ?_; intro Sd_ a w G1 hG HT H fin; refine s_pick_t H wn rfl (decide_eq_true c1) rfl rfl ?_; clear H; intro a H; exact fin H (fun _ _ h => h) (rfl)
          · refine opI [(6, 59, _)] rfl ⟨fun _ _ h => h, trivial⟩ (by kernel_rfl) (fun _ _ _ _ _ h => h) rfl rfl ?_; intro Sd_ a w G1 hG HT H fin; refine s_move H wn rfl rfl ?_; clear H; intro a H; exact fin H (fun _ _ h => h) (rfl)
          · refine opI [(7, 60, _)] rfl ⟨fun _ _ h => h, trivial⟩ (by kernel_rfl) (fun _ _ _ _ _ h => h) rfl rfl ?_; intro Sd_ a w G1 hG HT H fin; refine s_move H (wg H rfl rfl (decide_eq_true c2)) rfl rfl ?_; clear H; intro a H; exact fin H (fun _ _ h => h) (by first | rfl | exact congrArg (fun A => Value.slice A k vc) (Exists.elim (hprev c2) fun _ h => h.1))
          · refine opI [(7, 60, _)] rfl ⟨fun _ _ h => h, trivial⟩ (by kernel_rfl) (fun _ _ _ _ _ h => h) rfl rfl ?_; intro Sd_ a w G1 hG HT H fin; refine s_move H (wg H rfl rfl (decide_eq_true c2)) rfl rfl ?_; clear H; intro a H; exact fin H (fun _ _ h => h) (rfl)
          · refine opI [(9, 62, _), (7, 60, _)] rfl ⟨fun _ _ h => h, fun _ _ h => h, trivial⟩ (by kernel_rfl) (fun _ _ _ _ _ h => h) rfl rfl ?_; intro Sd_ a w G1 hG HT H fin; refine s_sub _ H (wg H rfl rfl (decide_eq_true c2)) rfl rfl rfl (by omega) (by omega) rfl ?_; clear H; intro a H; exact fin H (fun _ _ h => h) (by first | rfl | exact congrArg vi (by omega))
          · refine opI [(8, 61, _), (10, 63, _), (7, 60, _)] rfl ⟨fun _ _ h => h, fun _ _ h => h, fun _ _ h => h, trivial⟩ (by kernel_rfl) (fun _ _ _ _ _ h => h) rfl rfl ?_; intro Sd_ a w G1 hG HT H fin; refine s_index un32run ty35run _ H (wg H rfl rfl (decide_eq_true c2)) rfl rfl rfl (by first | assumption | omega) rfl ?_; clear H; intro a H; exact fin H (fun _ _ h => h) (rfl)
          · refine opI [(11, 64, _), (7, 60, _)] rfl ⟨fun _ _ h => h, fun _ _ h => h, trivial⟩ (by kernel_rfl) (fun _ _ _ _ _ h => h) rfl rfl ?_; intro Sd_ a w G1 hG HT H fin; refine s_field fd35_0run H (wg H rfl rfl (decide_eq_true c2)) rfl rfl ?_; clear H; intro a H; exact fin H (fun _ _ h => h) (rfl)
          · refine opI [(12, 65, _), (7, 60, _)] rfl ⟨fun _ _ h => h, fun _ _ h => h, trivial⟩ (by kernel_rfl) (fun _ _ _ _ _ h => h) rfl rfl ?_; intro Sd_ a w G1 hG HT H fin; obtain ⟨_, rfl, _, hkd, _⟩ := hprev c2; refine s_load ty3run H (wg H rfl rfl (decide_eq_true c2)) rfl (hrw.at H.hp (fun x hx => List.mem_cons_of_mem _ hx) (by rw [Nat.zero_add]; exact hkd)) rfl ?_; clear H; intro a H; exact fin H (fun _ _ h => h) (rfl)
          · refine opI [(13, 66, _), (7, 60, _)] rfl ⟨fun _ _ h => h, fun _ _ h => h, trivial⟩ (by kernel_rfl) (fun _ _ _ _ _ h => h) rfl rfl ?_; intro Sd_ a w G1 hG HT H fin; refine s_cmp H (wg H rfl rfl (decide_eq_true c2)) rfl rfl rfl rfl ?_; clear H; intro a H; exact fin H (fun _ _ h => h) (rfl)
          · refine opI [(7, 60, _), (14, 67, _)] rfl ⟨fun _ _ h => h, fun _ _ h => h, trivial⟩ (by kernel_rfl) (fun _ _ _ _ _ h => h) rfl rfl ?_; intro Sd_ a w G1 hG HT H fin; refine s_pick_t H wn rfl (decide_eq_true c2) rfl rfl ?_; clear H; intro a H; exact fin H (fun _ _ h => h) (rfl)
          · refine opI [(15, 68, _)] rfl ⟨fun _ _ h => h, trivial⟩ (by kernel_rfl) (fun _ _ _ _ _ h => h) rfl rfl ?_; intro Sd_ a w G1 hG HT H fin; refine s_move H wn rfl rfl ?_; clear H; intro a H; exact fin H (fun _ _ h => h) (rfl)
          · exact skipI (j := 16) (by kernel_rfl) (fun _ _ _ _ _ h => h) rfl rfl rfl rfl rfl (fun _ _ h => Eq.trans h (congrArg Value.bool (decide_eq_false c3))) rfl (fun _ => rfl)
          · exact skipI (j := 16) (by kernel_rfl) (fun _ _ _ _ _ h => h) rfl rfl rfl rfl rfl (fun _ _ h => Eq.trans h (congrArg Value.bool (decide_eq_false c3))) rfl (fun _ => rfl)
          · exact skipI (j := 16) (by kernel_rfl) (fun _ _ _ _ _ h => h) rfl rfl rfl rfl rfl (fun _ _ h => Eq.trans h (congrArg Value.bool (decide_eq_false c3))) rfl (fun _ => rfl)
          · exact skipI (j := 16) (by kernel_rfl) (fun _ _ _ _ _ h => h) rfl rfl rfl rfl rfl (fun _ _ h => Eq.trans h (congrArg Value.bool (decide_eq_false c3))) rfl (fun _ => rfl)
          · exact skipI (j := 16) (by kernel_rfl) (fun _ _ _ _ _ h => h) rfl rfl rfl rfl rfl (fun _ _ h => Eq.trans h (congrArg Value.bool (decide_eq_false c3))) rfl (fun _ => rfl)
          · exact skipI (j := 16) (by kernel_rfl) (fun _ _ _ _ _ h => h) rfl rfl rfl rfl rfl (fun _ _ h => Eq.trans h (congrArg Value.bool (decide_eq_false c3))) rfl (fun _ => rfl)
          · exact skipI (j := 16) (by kernel_rfl) (fun _ _ _ _ _ h => h) rfl rfl rfl rfl rfl (fun _ _ h => Eq.trans h (congrArg Value.bool (decide_eq_false c3))) rfl (fun _ => rfl)
          · exact skipI (j := 16) (by kernel_rfl) (fun _ _ _ _ _ h => h) rfl rfl rfl rfl rfl (fun _ _ h => Eq.trans h (congrArg Value.bool (decide_eq_false c3))) rfl (fun _ => rfl)
          · exact skipI (j := 16) (by kernel_rfl) (fun _ _ _ _ _ h => h) rfl rfl rfl rfl rfl (fun _ _ h => Eq.trans h (congrArg Value.bool (decide_eq_false c3))) rfl (fun _ => rfl)
          · refine opI [(16, 69, _), (25, 78, _)] rfl ⟨fun _ _ h => h, fun _ _ h => h, trivial⟩ (by kernel_rfl) (fun _ _ _ _ _ h => h) rfl rfl ?_; intro Sd_ a w G1 hG HT H fin; refine s_pick_f H wn rfl (decide_eq_false c3) rfl rfl ?_; clear H; intro a H; exact fin H (fun _ _ h => h) (rfl)
          refine opI [(26, 79, _)] rfl ⟨fun _ _ h => h, trivial⟩ (by kernel_rfl) (fun _ _ _ _ _ h => h) rfl rfl ?_; intro Sd_ a w G1 hG HT H fin; refine s_assign H wn rfl rfl ?_; clear H; intro a H; exact fin H (fun _ _ h => h) (rfl)
        clear H; intro a w G hGm11 H hv; obtain ⟨u52, hu52, hp52⟩ := hv 27 52 (by decide) rfl; obtain rfl : u52 = .bool false := hp52; have H := H.addS hu52; clear hv; refine wl_nil ⟨rfl, ?_⟩; refine hK14 _ _ ?_; clear hK14; refine c_cond_f H rfl rfl ?_; refine c_region ?_; refine s_move H wn rfl rfl ?_; clear H; intro a H; refine s_loada ty35run (cs := [_, _, _, _, _, _, _, _, _, _, _]) H wn rfl rfl (H.hp.ocells 0 rfl rfl) rfl ?_; clear H; intro a H; refine s_buildSlice un32run ty35run [_, _, _, _, _, _, _, _, _, _, _] [_, _, _, _, _, _, _, _, _, _, _] H wn rfl rfl rfl rfl rfl (by intro i q h; match i, h with | 0, h => exact h | n + 1, h => simp at h) rfl rfl ?_; clear H; intro b30 a w hb30 H; refine s_append (Li := [_, _]) (Lo := Lo) (news := cs31) un32run ty35run rfl rfl H wn rfl rfl hrw (by rw [hcs31]; rfl) (by rw [hcs31]; exact H.hp.ocells 0 rfl rfl) hr31.one (by omega) (by omega) rfl ?_; clear H; intro v31 Lo31 a w hrw31 H; refine s_assign H wn rfl rfl ?_; clear H; intro a H; refine wl_nil ?_; refine hK7 _ _ ?_; clear hK7; refine c_region ?_; refine s_add _ H wn rfl rfl rfl (by omega) (by omega) rfl ?_; clear H; intro a H; refine s_move H wn rfl rfl ?_; clear H; intro a H; refine wl_nil ?_; refine loop_end ((k + 1, v31, xs ++ cs31, Lo31, G)) (by exact (H.pickT (Pl := [_, _]) (Pl' := []) [] (by decide) rfl).sub ⟨rfl, rfl, rfl, rfl, trivial⟩) ?_ ?_
        · (try dsimp only); exact ⟨by omega, hrw31, by rw [hA1]; exact (hcat.mono (fun b o h => hGm11 b o (hm24 b o (hm23 b o (hm19 b o (hm15 b o h)))))).snoc (hr31.mono hGm11) (by rw [hcs31]; rfl), fun b o h => hGm11 b o (hm24 b o (hm23 b o (hm19 b o (hm15 b o (hgm b o h)))))⟩
        first | omega | (dsimp only; omega)
      skip; refine c_drawI (hmx) [[], [0], [0, 1], [0, 1, 2], [0, 1, 2, 3], [0, 1, 2, 3, 4], [0, 1, 2, 3, 4, 5], [0, 1, 2, 3, 4, 5, 6], [0, 1, 2, 3, 4, 5, 6, 7], [0, 1, 2, 3, 4, 5, 6, 7], [0, 1, 2, 3, 4, 5, 6, 7, 9], [0, 1, 2, 3, 4, 5, 6, 7, 8, 9, 10], [0, 1, 2, 3, 4, 5, 6, 7, 8, 9, 10, 11], [0, 1, 2, 3, 4, 5, 6, 7, 8, 9, 10, 11, 12], [0, 1, 2, 3, 4, 5, 6, 7, 8, 9, 10, 11, 12, 13], [0, 1, 2, 3, 4, 5, 6, 7, 8, 9, 10, 11, 12, 13, 14], [0, 1, 2, 3, 4, 5, 6, 7, 8, 9, 10, 11, 12, 13, 14, 15], [0, 1, 2, 3, 4, 5, 6, 7, 8, 9, 10, 11, 12, 13, 14, 15, 16], [0, 1, 2, 3, 4, 5, 6, 7, 8, 9, 10, 11, 12, 13, 14, 15, 16], [0, 1, 2, 3, 4, 5, 6, 7, 8, 9, 10, 11, 12, 13, 14, 15, 16, 18], [0, 1, 2, 3, 4, 5, 6, 7, 8, 9, 10, 11, 12, 13, 14, 15, 16, 17, 18, 19], [0, 1, 2, 3, 4, 5, 6, 7, 8, 9, 10, 11, 12, 13, 14, 15, 16, 17, 18, 19, 20], [0, 1, 2, 3, 4, 5, 6, 7, 8, 9, 10, 11, 12, 13, 14, 15, 16, 17, 18, 19, 20, 21], [0, 1, 2, 3, 4, 5, 6, 7, 8, 9, 10, 11, 12, 13, 14, 15, 16], [0, 1, 2, 3, 4, 5, 6, 7, 8, 9, 10, 11, 12, 13, 14, 15, 16, 23], [0, 1, 2, 3, 4, 5, 6, 7, 8, 9, 10, 11, 12, 13, 14, 15, 16, 17, 18, 19, 20, 21, 22, 23, 24], [0, 1, 2, 3, 4, 5, 6, 7, 8, 9, 10, 11, 12, 13, 14, 15, 16, 17, 18, 19, 20, 21, 22, 23, 24, 25], [0, 1, 2, 3, 4, 5, 6, 7, 8, 9, 10, 11, 12, 13, 14, 15, 16, 17, 18, 19, 20, 21, 22, 23, 24, 25, 26]] [] (by kernel_rfl) (by kernel_rfl) (fun (ix_ : Nat) (v : Value) (G : GH) => match ix_ with | 0 => v = .pointer (some ⟨b5, 0, none⟩) | 1 => v = vi l[k].kind | 2 => v = .bool (decide (l[k].kind = 1)) | 3 => v = .bool (decide (l[k].kind = 1)) | 4 => v = vi k | 5 => v = .bool (decide (0 < (k : Int))) | 6 => v = .bool (decide (0 < (k : Int))) | 7 => v = .bool (decide (0 < (k : Int))) | 8 => v = undef | 9 => v = undef | 10 => v = undef | 11 => v = undef | 12 => v = undef | 13 => v = undef | 14 => v = undef | 15 => v = .bool false | 16 => v = .bool false | 17 => v = undef | 18 => v = undef | 19 => v = undef | 20 => v = undef | 21 => v = undef | 22 => v = undef | 23 => v = undef | 24 => v = undef | 25 => v = undef | 26 => v = .bool false | 27 => v = .bool false | _ => True) (fun _ _ _ _ _ h => h) H ?_ ?_
      · clear H; refine (allI_cons ?_ (allI_cons ?_ (allI_cons ?_ (allI_cons ?_ (allI_cons ?_ (allI_cons ?_ (allI_cons ?_ (allI_cons ?_ (allI_cons ?_ (allI_cons ?_ (allI_cons ?_ (allI_cons ?_ (allI_cons ?_ (allI_cons ?_ (allI_cons ?_ (allI_cons ?_ (allI_cons ?_ (allI_cons ?_ (allI_cons ?_ (allI_cons ?_ (allI_cons ?_ (allI_cons ?_ (allI_cons ?_ (allI_cons ?_ (allI_cons ?_ (allI_cons ?_ (allI_cons ?_ (allI_cons ?_ allI_nil))))))))))))))))))))))))))))
        · refine opI [] rfl trivial (by kernel_rfl) (fun _ _ _ _ _ h => h) rfl rfl ?_; intro Sd_ a w G1 hG HT H fin; refine s_field fd35_0run H wn rfl rfl ?_; clear H; intro a H; exact fin H (fun _ _ h => h) (rfl)
        · refine opI [(0, 53, _)] rfl ⟨fun _ _ h => h, trivial⟩ (by kernel_rfl) (fun _ _ _ _ _ h => h) rfl rfl ?_; intro Sd_ a w G1 hG HT H fin; refine s_load ty3run H wn rfl (H.hp.ocell 0 rfl rfl) rfl ?_; clear H; intro a H; exact fin H (fun _ _ h => h) (rfl)
        · refine opI [(1, 54, _)] rfl ⟨fun _ _ h => h, trivial⟩ (by kernel_rfl) (fun _ _ _ _ _ h => h) rfl rfl ?_; intro Sd_ a w G1 hG HT H fin; refine s_cmp H wn rfl rfl rfl rfl ?_; clear H; intro a H; exact fin H (fun _ _ h => h) (rfl)
        · refine opI [(2, 55, _)] rfl ⟨fun _ _ h => h, trivial⟩ (by kernel_rfl) (fun _ _ _ _ _ h => h) rfl rfl ?_; intro Sd_ a w G1 hG HT H fin; refine s_move H wn rfl rfl ?_; clear H; intro a H; exact fin H (fun _ _ h => h) (rfl)
        · refine opI [(3, 56, _)] rfl ⟨fun _ _ h => h, trivial⟩ (by kernel_rfl) (fun _ _ _ _ _ h => h) rfl rfl ?_; intro Sd_ a w G1 hG HT H fin; refine s_move H (wg H rfl rfl (decide_eq_true c1)) rfl rfl ?_; clear H; intro a H; exact fin H (fun _ _ h => h) (rfl)
        · refine opI [(4, 57, _), (3, 56, _)] rfl ⟨fun _ _ h => h, fun _ _ h => h, trivial⟩ (by kernel_rfl) (fun _ _ _ _ _ h => h) rfl rfl ?_; intro Sd_ a w G1 hG HT H fin; refine s_cmp H (wg H rfl rfl (decide_eq_true c1)) rfl rfl rfl rfl ?_; clear H; intro a H; exact fin H (fun _ _ h => h) (rfl)
        · refine opI [(3, 56, _), (5, 58, _)] rfl ⟨fun _ _ h => h, fun _ _ h => h, trivial⟩ (by kernel_rfl) (fun _ _ _ _ _ h => h) rfl rfl ?_; intro Sd_ a w G1 hG HT H fin; refine s_pick_t H wn rfl (decide_eq_true c1) rfl rfl ?_; clear H; intro a H; exact fin H (fun _ _ h => h) (rfl)
        · refine opI [(6, 59, _)] rfl ⟨fun _ _ h => h, trivial⟩ (by kernel_rfl) (fun _ _ _ _ _ h => h) rfl rfl ?_; intro Sd_ a w G1 hG HT H fin; refine s_move H wn rfl rfl ?_; clear H; intro a H; exact fin H (fun _ _ h => h) (rfl)
        · exact skipI (j := 7) (by kernel_rfl) (fun _ _ _ _ _ h => h) rfl rfl rfl rfl rfl (fun _ _ h => Eq.trans h (congrArg Value.bool (decide_eq_false c2))) rfl (fun _ => rfl)
        · exact skipI (j := 7) (by kernel_rfl) (fun _ _ _ _ _ h => h) rfl rfl rfl rfl rfl (fun _ _ h => Eq.trans h (congrArg Value.bool (decide_eq_false c2))) rfl (fun _ => rfl)
        · exact skipI (j := 7) (by kernel_rfl) (fun _ _ _ _ _ h => h) rfl rfl rfl rfl rfl (fun _ _ h => Eq.trans h (congrArg Value.bool (decide_eq_false c2))) rfl (fun _ => rfl)
        · exact skipI (j := 7) (by kernel_rfl) (fun _ _ _ _ _ h => h) rfl rfl rfl rfl rfl (fun _ _ h => Eq.trans h (congrArg Value.bool (decide_eq_false c2))) rfl (fun _ => rfl)
        · exact skipI (j := 7) (by kernel_rfl) (fun _ _ _ _ _ h => h) rfl rfl rfl rfl rfl (fun _ _ h => Eq.trans h (congrArg Value.bool (decide_eq_false c2))) rfl (fun _ => rfl)
        · exact skipI (j := 7) (by kernel_rfl) (fun _ _ _ _ _ h => h) rfl rfl rfl rfl rfl (fun _ _ h => Eq.trans h (congrArg Value.bool (decide_eq_false c2))) rfl (fun _ => rfl)
        · exact skipI (j := 7) (by kernel_rfl) (fun _ _ _ _ _ h => h) rfl rfl rfl rfl rfl (fun _ _ h => Eq.trans h (congrArg Value.bool (decide_eq_false c2))) rfl (fun _ => rfl)
        · refine opI [(7, 60, _), (14, 67, _)] rfl ⟨fun _ _ h => h, fun _ _ h => h, trivial⟩ (by kernel_rfl) (fun _ _ _ _ _ h => h) rfl rfl ?_; intro Sd_ a w G1 hG HT H fin; refine s_pick_f H wn rfl (decide_eq_false c2) rfl rfl ?_; clear H; intro a H; exact fin H (fun _ _ h => h) (rfl)
        · refine opI [(15, 68, _)] rfl ⟨fun _ _ h => h, trivial⟩ (by kernel_rfl) (fun _ _ _ _ _ h => h) rfl rfl ?_; intro Sd_ a w G1 hG HT H fin; refine s_move H wn rfl rfl ?_; clear H; intro a H; exact fin H (fun _ _ h => h) (rfl)
        · exact skipI (j := 16) (by kernel_rfl) (fun _ _ _ _ _ h => h) rfl rfl rfl rfl rfl (fun _ _ h => Eq.trans h (congrArg Value.bool rfl)) rfl (fun _ => rfl)
        · exact skipI (j := 16) (by kernel_rfl) (fun _ _ _ _ _ h => h) rfl rfl rfl rfl rfl (fun _ _ h => Eq.trans h (congrArg Value.bool rfl)) rfl (fun _ => rfl)
        · exact skipI (j := 16) (by kernel_rfl) (fun _ _ _ _ _ h => h) rfl rfl rfl rfl rfl (fun _ _ h => Eq.trans h (congrArg Value.bool rfl)) rfl (fun _ => rfl)
        · exact skipI (j := 16) (by kernel_rfl) (fun _ _ _ _ _ h => h) rfl rfl rfl rfl rfl (fun _ _ h => Eq.trans h (congrArg Value.bool rfl)) rfl (fun _ => rfl)
        · exact skipI (j := 16) (by kernel_rfl) (fun _ _ _ _ _ h => h) rfl rfl rfl rfl rfl (fun _ _ h => Eq.trans h (congrArg Value.bool rfl)) rfl (fun _ => rfl)
        · exact skipI (j := 16) (by kernel_rfl) (fun _ _ _ _ _ h => h) rfl rfl rfl rfl rfl (fun _ _ h => Eq.trans h (congrArg Value.bool rfl)) rfl (fun _ => rfl)
        · exact skipI (j := 16) (by kernel_rfl) (fun _ _ _ _ _ h => h) rfl rfl rfl rfl rfl (fun _ _ h => Eq.trans h (congrArg Value.bool rfl)) rfl (fun _ => rfl)
        · exact skipI (j := 16) (by kernel_rfl) (fun _ _ _ _ _ h => h) rfl rfl rfl rfl rfl (fun _ _ h => Eq.trans h (congrArg Value.bool rfl)) rfl (fun _ => rfl)
        · exact skipI (j := 16) (by kernel_rfl) (fun _ _ _ _ _ h => h) rfl rfl rfl rfl rfl (fun _ _ h => Eq.trans h (congrArg Value.bool rfl)) rfl (fun _ => rfl)
        · refine opI [(16, 69, _), (25, 78, _)] rfl ⟨fun _ _ h => h, fun _ _ h => h, trivial⟩ (by kernel_rfl) (fun _ _ _ _ _ h => h) rfl rfl ?_; intro Sd_ a w G1 hG HT H fin; refine s_pick_f H wn rfl rfl rfl rfl ?_; clear H; intro a H; exact fin H (fun _ _ h => h) (rfl)
        refine opI [(26, 79, _)] rfl ⟨fun _ _ h => h, trivial⟩ (by kernel_rfl) (fun _ _ _ _ _ h => h) rfl rfl ?_; intro Sd_ a w G1 hG HT H fin; refine s_assign H wn rfl rfl ?_; clear H; intro a H; exact fin H (fun _ _ h => h) (rfl)
      clear H; intro a w G hGm11 H hv; obtain ⟨u52, hu52, hp52⟩ := hv 27 52 (by decide) rfl; obtain rfl : u52 = .bool false := hp52; have H := H.addS hu52; clear hv; refine wl_nil ⟨rfl, ?_⟩; refine hK14 _ _ ?_; clear hK14; refine c_cond_f H rfl rfl ?_; refine c_region ?_; refine s_move H wn rfl rfl ?_; clear H; intro a H; refine s_loada ty35run (cs := [_, _, _, _, _, _, _, _, _, _, _]) H wn rfl rfl (H.hp.ocells 0 rfl rfl) rfl ?_; clear H; intro a H; refine s_buildSlice un32run ty35run [_, _, _, _, _, _, _, _, _, _, _] [_, _, _, _, _, _, _, _, _, _, _] H wn rfl rfl rfl rfl rfl (by intro i q h; match i, h with | 0, h => exact h | n + 1, h => simp at h) rfl rfl ?_; clear H; intro b30 a w hb30 H; refine s_append (Li := [_, _]) (Lo := Lo) (news := cs31) un32run ty35run rfl rfl H wn rfl rfl hrw (by rw [hcs31]; rfl) (by rw [hcs31]; exact H.hp.ocells 0 rfl rfl) hr31.one (by omega) (by omega) rfl ?_; clear H; intro v31 Lo31 a w hrw31 H; refine s_assign H wn rfl rfl ?_; clear H; intro a H; refine wl_nil ?_; refine hK7 _ _ ?_; clear hK7; refine c_region ?_; refine s_add _ H wn rfl rfl rfl (by omega) (by omega) rfl ?_; clear H; intro a H; refine s_move H wn rfl rfl ?_; clear H; intro a H; refine wl_nil ?_; refine loop_end ((k + 1, v31, xs ++ cs31, Lo31, G)) (by exact (H.pickT (Pl := [_, _]) (Pl' := []) [] (by decide) rfl).sub ⟨rfl, rfl, rfl, rfl, trivial⟩) ?_ ?_
      · (try dsimp only); exact ⟨by omega, hrw31, by rw [hA1]; exact (hcat.mono (fun b o h => hGm11 b o (hm24 b o (hm23 b o (hm19 b o (hm15 b o h)))))).snoc (hr31.mono hGm11) (by rw [hcs31]; rfl), fun b o h => hGm11 b o (hm24 b o (hm23 b o (hm19 b o (hm15 b o (hgm b o h)))))⟩
      first | omega | (dsimp only; omega)
    intro h46
    try have p46 := of_decide_eq_false h46
    (iterate 3 refine s_skip H rfl rfl h46 rfl ?_; clear H; intro a H); refine s_pick_f H (wg H rfl rfl rfl) rfl h46 rfl rfl ?_; clear H; intro a H; refine s_pick_f H wn rfl rfl rfl rfl ?_; clear H; intro a H; refine s_assign H wn rfl rfl ?_; clear H; intro a H; refine hK13 _ _ ?_; clear hK13; refine c_cond_f H rfl rfl ?_; refine c_seq (fun _ hK15 => ?_); obtain ⟨cs31, hcs31⟩ : ∃ x, x = [vi l[k].kind, vi l[k].code, vi l[k].id, .string l[k].text, .slice a1 a2 a3, vi l[k].head.marks.ins, vi l[k].head.marks.move, .slice a4 a5 a6, .slice a7 a8 a9, .slice A19 n19 c19, .slice A24 n24 c24] := ⟨_, rfl⟩
    have hr31 : RepRow G24 l[k].dat cs31 := by
      rw [hcs31]; exact RepRow.mkItem (hh15.mono fun b o h => hm24 b o (hm23 b o (hm19 b o h))) (by rw [e1]; exact hp19.mono fun b o h => hm24 b o (hm23 b o h)) (by rw [e2]; exact hp24)
    have hA1 : (l.map ItemD.dat).take (k + 1) = (l.map ItemD.dat).take k ++ [l[k].dat] := by rw [List.take_succ_eq_append_getElem (by simpa using hk2)]; simp
    have hcat24 := hcat.mono fun b o h => hm24 b o (hm23 b o (hm19 b o (hm15 b o h)))
    obtain ⟨bo, pk, pp, pd, pl, hprev⟩ : ∃ (bo : Nat) (pk : HeadD × Int) (pp pd pl : Value), 0 < (k : Int) → ∃ (h : k - 1 < l.length), vA = some ⟨bo, 0, none⟩ ∧ pk = (l[k - 1].head, l[k - 1].kind) ∧ xs[(k - 1) * 11]? = some (vi pk.2) ∧ HeadR G24 pk.1 pp pd pl ∧ ∀ j u, [pp, vi pk.1.marks.ins, vi pk.1.marks.move, pd, pl][j]? = some u → xs[(k - 1) * 11 + 4 + j]? = some u := by
      by_cases h0 : 0 < k
      · obtain ⟨bo, hbo⟩ := hrw.ptr h0; obtain ⟨cs, hcl, hcx, hcr⟩ := hcat24.at (k := k - 1) (r := l[k - 1].dat) (by rw [List.getElem?_take, if_pos (by omega)]; simp [show k - 1 < l.length by omega]); obtain ⟨qA, qn, qc, sA, sn, sc, tA, tn, tc, fA2, fn2, fc2, rA2, rn2, rc2, rfl, hh, -, -⟩ := hcr.item; refine ⟨bo, (l[k - 1].head, l[k - 1].kind), .slice qA qn qc, .slice sA sn sc, .slice tA tn tc, fun _ => ⟨by omega, hbo, rfl, hcx 0 _ rfl, hh, fun j u hj => ?_⟩⟩; rw [Nat.add_assoc]
        exact hcx (4 + j) u (by
          match j, hj with
          | 0, hj => exact hj
          | 1, hj => exact hj
          | 2, hj => exact hj
          | 3, hj => exact hj
          | 4, hj => exact hj)
      exact ⟨0, (⟨[], ⟨0, 0, [], []⟩⟩, 0), .slice none 0 0, .slice none 0 0, .slice none 0 0, fun h => by omega⟩
    have hnj : l[k].kind = 1 → 0 < (k : Int) → pk.2 = 1 → ¬ pk.1 = l[k].head := by
      intro c1 c2 c3 e; obtain ⟨hk1, -, hpk, -⟩ := hprev c2; have hjk := hj (k - 1) (by omega); rw [hpk] at e c3
      simp only [show k - 1 + 1 = k by omega] at hjk
      exact hjk ⟨c3, c1, e⟩
    have c1 : ¬ (l[k].kind = 1) := p46; refine c_drawI (hmx) [[], [0], [0, 1], [0, 1, 2], [0, 1, 2, 3], [0, 1, 2, 3, 4], [0, 1, 2, 3, 4, 5], [0, 1, 2, 3, 4, 5, 6], [0, 1, 2, 3, 4, 5, 6, 7], [0, 1, 2, 3, 4, 5, 6, 7], [0, 1, 2, 3, 4, 5, 6, 7, 9], [0, 1, 2, 3, 4, 5, 6, 7, 8, 9, 10], [0, 1, 2, 3, 4, 5, 6, 7, 8, 9, 10, 11], [0, 1, 2, 3, 4, 5, 6, 7, 8, 9, 10, 11, 12], [0, 1, 2, 3, 4, 5, 6, 7, 8, 9, 10, 11, 12, 13], [0, 1, 2, 3, 4, 5, 6, 7, 8, 9, 10, 11, 12, 13, 14], [0, 1, 2, 3, 4, 5, 6, 7, 8, 9, 10, 11, 12, 13, 14, 15], [0, 1, 2, 3, 4, 5, 6, 7, 8, 9, 10, 11, 12, 13, 14, 15, 16], [0, 1, 2, 3, 4, 5, 6, 7, 8, 9, 10, 11, 12, 13, 14, 15, 16], [0, 1, 2, 3, 4, 5, 6, 7, 8, 9, 10, 11, 12, 13, 14, 15, 16, 18], [0, 1, 2, 3, 4, 5, 6, 7, 8, 9, 10, 11, 12, 13, 14, 15, 16, 17, 18, 19], [0, 1, 2, 3, 4, 5, 6, 7, 8, 9, 10, 11, 12, 13, 14, 15, 16, 17, 18, 19, 20], [0, 1, 2, 3, 4, 5, 6, 7, 8, 9, 10, 11, 12, 13, 14, 15, 16, 17, 18, 19, 20, 21], [0, 1, 2, 3, 4, 5, 6, 7, 8, 9, 10, 11, 12, 13, 14, 15, 16], [0, 1, 2, 3, 4, 5, 6, 7, 8, 9, 10, 11, 12, 13, 14, 15, 16, 23], [0, 1, 2, 3, 4, 5, 6, 7, 8, 9, 10, 11, 12, 13, 14, 15, 16, 17, 18, 19, 20, 21, 22, 23, 24], [0, 1, 2, 3, 4, 5, 6, 7, 8, 9, 10, 11, 12, 13, 14, 15, 16, 17, 18, 19, 20, 21, 22, 23, 24, 25], [0, 1, 2, 3, 4, 5, 6, 7, 8, 9, 10, 11, 12, 13, 14, 15, 16, 17, 18, 19, 20, 21, 22, 23, 24, 25, 26]] [] (by kernel_rfl) (by kernel_rfl) (fun (ix_ : Nat) (v : Value) (G : GH) => match ix_ with | 0 => v = .pointer (some ⟨b5, 0, none⟩) | 1 => v = vi l[k].kind | 2 => v = .bool (decide (l[k].kind = 1)) | 3 => v = .bool (decide (l[k].kind = 1)) | 4 => v = undef | 5 => v = undef | 6 => v = .bool false | 7 => v = .bool false | 8 => v = undef | 9 => v = undef | 10 => v = undef | 11 => v = undef | 12 => v = undef | 13 => v = undef | 14 => v = undef | 15 => v = .bool false | 16 => v = .bool false | 17 => v = undef | 18 => v = undef | 19 => v = undef | 20 => v = undef | 21 => v = undef | 22 => v = undef | 23 => v = undef | 24 => v = undef | 25 => v = undef | 26 => v = .bool false | 27 => v = .bool false | _ => True) (fun _ _ _ _ _ h => h) H ?_ ?_
    · clear H; refine (allI_cons ?_ (allI_cons ?_ (allI_cons ?_ (allI_cons ?_ (allI_cons ?_ (allI_cons ?_ (allI_cons ?_ (allI_cons ?_ (allI_cons ?_ (allI_cons ?_ (allI_cons ?_ (allI_cons ?_ (allI_cons ?_ (allI_cons ?_ (allI_cons ?_ (allI_cons ?_ (allI_cons ?_ (allI_cons ?_ (allI_cons ?_ (allI_cons ?_ (allI_cons ?_ (allI_cons ?_ (allI_cons ?_ (allI_cons ?_ (allI_cons ?_ (allI_cons ?_ (allI_cons ?_ (allI_cons ?_ allI_nil))))))))))))))))))))))))))))
      · refine opI [] rfl trivial (by kernel_rfl) (fun _ _ _ _ _ h => h) rfl rfl ?_; intro Sd_ a w G1 hG HT H fin; refine s_field fd35_0run H wn rfl rfl ?_; clear H; intro a H; exact fin H (fun _ _ h => h) (rfl)
      · refine opI [(0, 53, _)] rfl ⟨fun _ _ h => h, trivial⟩ (by kernel_rfl) (fun _ _ _ _ _ h => h) rfl rfl ?_; intro Sd_ a w G1 hG HT H fin; refine s_load ty3run H wn rfl (H.hp.ocell 0 rfl rfl) rfl ?_; clear H; intro a H; exact fin H (fun _ _ h => h) (rfl)
      · refine opI [(1, 54, _)] rfl ⟨fun _ _ h => h, trivial⟩ (by kernel_rfl) (fun _ _ _ _ _ h => h) rfl rfl ?_; intro Sd_ a w G1 hG HT H fin; refine s_cmp H wn rfl rfl rfl rfl ?_; clear H; intro a H; exact fin H (fun _ _ h => h) (rfl)
      · refine opI [(2, 55, _)] rfl ⟨fun _ _ h => h, trivial⟩ (by kernel_rfl) (fun _ _ _ _ _ h => h) rfl rfl ?_; intro Sd_ a w G1 hG HT H fin; refine s_move H wn rfl rfl ?_; clear H; intro a H; exact fin H (fun _ _ h => h) (rfl)
      · exact skipI (j := 3) (by kernel_rfl) (fun _ _ _ _ _ h => h) rfl rfl rfl rfl rfl (fun _ _ h => Eq.trans h (congrArg Value.bool (decide_eq_false c1))) rfl (fun _ => rfl)
      · exact skipI (j := 3) (by kernel_rfl) (fun _ _ _ _ _ h => h) rfl rfl rfl rfl rfl (fun _ _ h => Eq.trans h (congrArg Value.bool (decide_eq_false c1))) rfl (fun _ => rfl)
      · refine opI [(3, 56, _), (5, 58, _)] rfl ⟨fun _ _ h => h, fun _ _ h => h, trivial⟩ (by kernel_rfl) (fun _ _ _ _ _ h => h) rfl rfl ?_; intro Sd_ a w G1 hG HT H fin; refine s_pick_f H wn rfl (decide_eq_false c1) rfl rfl ?_; clear H; intro a H; exact fin H (fun _ _ h => h) (rfl)
      · refine opI [(6, 59, _)] rfl ⟨fun _ _ h => h, trivial⟩ (by kernel_rfl) (fun _ _ _ _ _ h => h) rfl rfl ?_; intro Sd_ a w G1 hG HT H fin; refine s_move H wn rfl rfl ?_; clear H; intro a H; exact fin H (fun _ _ h => h) (rfl)
      · exact skipI (j := 7) (by kernel_rfl) (fun _ _ _ _ _ h => h) rfl rfl rfl rfl rfl (fun _ _ h => Eq.trans h (congrArg Value.bool rfl)) rfl (fun _ => rfl)
      · exact skipI (j := 7) (by kernel_rfl) (fun _ _ _ _ _ h => h) rfl rfl rfl rfl rfl (fun _ _ h => Eq.trans h (congrArg Value.bool rfl)) rfl (fun _ => rfl)
      · exact skipI (j := 7) (by kernel_rfl) (fun _ _ _ _ _ h => h) rfl rfl rfl rfl rfl (fun _ _ h => Eq.trans h (congrArg Value.bool rfl)) rfl (fun _ => rfl)
      · exact skipI (j := 7) (by kernel_rfl) (fun _ _ _ _ _ h => h) rfl rfl rfl rfl rfl (fun _ _ h => Eq.trans h (congrArg Value.bool rfl)) rfl (fun _ => rfl)
      · exact skipI (j := 7) (by kernel_rfl) (fun _ _ _ _ _ h => h) rfl rfl rfl rfl rfl (fun _ _ h => Eq.trans h (congrArg Value.bool rfl)) rfl (fun _ => rfl)
      · exact skipI (j := 7) (by kernel_rfl) (fun _ _ _ _ _ h => h) rfl rfl rfl rfl rfl (fun _ _ h => Eq.trans h (congrArg Value.bool rfl)) rfl (fun _ => rfl)
      · exact skipI (j := 7) (by kernel_rfl) (fun _ _ _ _ _ h => h) rfl rfl rfl rfl rfl (fun _ _ h => Eq.trans h (congrArg Value.bool rfl)) rfl (fun _ => rfl)
      · refine opI [(7, 60, _), (14, 67, _)] rfl ⟨fun _ _ h => h, fun _ _ h => h, trivial⟩ (by kernel_rfl) (fun _ _ _ _ _ h => h) rfl rfl ?_; intro Sd_ a w G1 hG HT H fin; refine s_pick_f H wn rfl rfl rfl rfl ?_; clear H; intro a H; exact fin H (fun _ _ h => h) (rfl)
      · refine opI [(15, 68, _)] rfl ⟨fun _ _ h => h, trivial⟩ (by kernel_rfl) (fun _ _ _ _ _ h => h) rfl rfl ?_; intro Sd_ a w G1 hG HT H fin; refine s_move H wn rfl rfl ?_; clear H; intro a H; exact fin H (fun _ _ h => h) (rfl)
      · exact skipI (j := 16) (by kernel_rfl) (fun _ _ _ _ _ h => h) rfl rfl rfl rfl rfl (fun _ _ h => Eq.trans h (congrArg Value.bool rfl)) rfl (fun _ => rfl)
      · exact skipI (j := 16) (by kernel_rfl) (fun _ _ _ _ _ h => h) rfl rfl rfl rfl rfl (fun _ _ h => Eq.trans h (congrArg Value.bool rfl)) rfl (fun _ => rfl)
      · exact skipI (j := 16) (by kernel_rfl) (fun _ _ _ _ _ h => h) rfl rfl rfl rfl rfl (fun _ _ h => Eq.trans h (congrArg Value.bool rfl)) rfl (fun _ => rfl)
      · exact skipI (j := 16) (by kernel_rfl) (fun _ _ _ _ _ h => h) rfl rfl rfl rfl rfl (fun _ _ h => Eq.trans h (congrArg Value.bool rfl)) rfl (fun _ => rfl)
      · exact skipI (j := 16) (by kernel_rfl) (fun _ _ _ _ _ h => h) rfl rfl rfl rfl rfl (fun _ _ h => Eq.trans h (congrArg Value.bool rfl)) rfl (fun _ => rfl)
      · exact skipI (j := 16) (by kernel_rfl) (fun _ _ _ _ _ h => h) rfl rfl rfl rfl rfl (fun _ _ h => Eq.trans h (congrArg Value.bool rfl)) rfl (fun _ => rfl)
      · exact skipI (j := 16) (by kernel_rfl) (fun _ _ _ _ _ h => h) rfl rfl rfl rfl rfl (fun _ _ h => Eq.trans h (congrArg Value.bool rfl)) rfl (fun _ => rfl)
      · exact skipI (j := 16) (by kernel_rfl) (fun _ _ _ _ _ h => h) rfl rfl rfl rfl rfl (fun _ _ h => Eq.trans h (congrArg Value.bool rfl)) rfl (fun _ => rfl)
      · exact skipI (j := 16) (by kernel_rfl) (fun _ _ _ _ _ h => h) rfl rfl rfl rfl rfl (fun _ _ h => Eq.trans h (congrArg Value.bool rfl)) rfl (fun _ => rfl)
      · refine opI [(16, 69, _), (25, 78, _)] rfl ⟨fun _ _ h => h, fun _ _ h => h, trivial⟩ (by kernel_rfl) (fun _ _ _ _ _ h => h) rfl rfl ?_; intro Sd_ a w G1 hG HT H fin; refine s_pick_f H wn rfl rfl rfl rfl ?_; clear H; intro a H; exact fin H (fun _ _ h => h) (rfl)
      refine opI [(26, 79, _)] rfl ⟨fun _ _ h => h, trivial⟩ (by kernel_rfl) (fun _ _ _ _ _ h => h) rfl rfl ?_; intro Sd_ a w G1 hG HT H fin; refine s_assign H wn rfl rfl ?_; clear H; intro a H; exact fin H (fun _ _ h => h) (rfl)
    clear H; intro a w G hGm11 H hv; obtain ⟨u52, hu52, hp52⟩ := hv 27 52 (by decide) rfl; obtain rfl : u52 = .bool false := hp52; have H := H.addS hu52; clear hv; refine wl_nil ⟨rfl, ?_⟩; refine hK15 _ _ ?_; clear hK15; refine c_cond_f H rfl rfl ?_; refine c_region ?_; refine s_move H wn rfl rfl ?_; clear H; intro a H; refine s_loada ty35run (cs := [_, _, _, _, _, _, _, _, _, _, _]) H wn rfl rfl (H.hp.ocells 0 rfl rfl) rfl ?_; clear H; intro a H; refine s_buildSlice un32run ty35run [_, _, _, _, _, _, _, _, _, _, _] [_, _, _, _, _, _, _, _, _, _, _] H wn rfl rfl rfl rfl rfl (by intro i q h; match i, h with | 0, h => exact h | n + 1, h => simp at h) rfl rfl ?_; clear H; intro b30 a w hb30 H; refine s_append (Li := [_, _]) (Lo := Lo) (news := cs31) un32run ty35run rfl rfl H wn rfl rfl hrw (by rw [hcs31]; rfl) (by rw [hcs31]; exact H.hp.ocells 0 rfl rfl) hr31.one (by omega) (by omega) rfl ?_; clear H; intro v31 Lo31 a w hrw31 H; refine s_assign H wn rfl rfl ?_; clear H; intro a H; refine wl_nil ?_; refine hK7 _ _ ?_; clear hK7; refine c_region ?_; refine s_add _ H wn rfl rfl rfl (by omega) (by omega) rfl ?_; clear H; intro a H; refine s_move H wn rfl rfl ?_; clear H; intro a H; refine wl_nil ?_; refine loop_end ((k + 1, v31, xs ++ cs31, Lo31, G)) (by exact (H.pickT (Pl := [_, _]) (Pl' := []) [] (by decide) rfl).sub ⟨rfl, rfl, rfl, rfl, trivial⟩) ?_ ?_
    · (try dsimp only); exact ⟨by omega, hrw31, by rw [hA1]; exact (hcat.mono (fun b o h => hGm11 b o (hm24 b o (hm23 b o (hm19 b o (hm15 b o h)))))).snoc (hr31.mono hGm11) (by rw [hcs31]; rfl), fun b o h => hGm11 b o (hm24 b o (hm23 b o (hm19 b o (hm15 b o (hgm b o h)))))⟩
    first | omega | (dsimp only; omega)
  intro h10
  try have p10 := of_decide_eq_false h10
  refine c_exit ?_; refine hK3 _ _ ?_; clear hK3; refine c_seq (fun _ hK16 => ?_); obtain ⟨G', hm, hrep, H⟩ := H.giveRow (Li := []) hrw (rows := l.map ItemD.dat) (by simp; omega) (by rw [List.take_of_length_le (by simp; omega)] at hcat; exact hcat); refine c_region ?_; refine s_move H wn rfl rfl ?_; clear H; intro a H; refine s_assign H wn rfl rfl ?_; clear H; intro a H; refine wl_nil ?_; refine hK16 _ _ ?_; clear hK16; refine c_ret ?_; refine (leave1 H Tryz.results209 (.cons (rv_tmp H rfl) .nil) ?_).1; exact H.hp.ret hrep
end
section
open Go.RowKit
theorem un84pas : Tryz.prog.underlying 84 = some (.slice 91) := by kernel_rfl
theorem ty84pas : Ty Tryz.prog 84 1 24 [.slice none 0 0] false := ⟨by kernel_rfl, by kernel_rfl⟩
theorem en168pas : ∀ args w, (callFunc 168 args).run Tryz.prog w = .ok (.enter 168 args) w := enters Tryz.func168 rfl (by kernel_rfl)
theorem en95pas : ∀ args w, (callFunc 95 args).run Tryz.prog w = .ok (.enter 95 args) w := enters Tryz.func95 rfl (by kernel_rfl)
theorem en94pas : ∀ args w, (callFunc 94 args).run Tryz.prog w = .ok (.enter 94 args) w := enters Tryz.func94 rfl (by kernel_rfl)
theorem en35pas : ∀ args w, (callFunc 35 args).run Tryz.prog w = .ok (.enter 35 args) w := enters Tryz.func35 rfl (by kernel_rfl)
theorem fd91_1pas : Fld Tryz.prog 91 1 1 := ⟨by kernel_rfl⟩
theorem fd91_2pas : Fld Tryz.prog 91 2 2 := ⟨by kernel_rfl⟩
def bkDat (a : BlkD) : List Dat := [li a.kind, li a.from_, li a.to, .lf (.bool a.mark)]
abbrev bkCells (a : BlkD) : List Value := [vi a.kind, vi a.from_, vi a.to, .bool a.mark]
theorem bk_row (G : GH) (a : BlkD) : RepRow G (bkDat a) (bkCells a) := by
  simp only [bkDat, RepRow]
  exact ⟨_, _, rfl, by simp [RepV, Value.oneCell'], _, _, rfl, by simp [RepV, Value.oneCell'], _, _, rfl, by simp [RepV, Value.oneCell'], _, _, rfl, by simp [RepV, Value.oneCell'], rfl⟩
theorem bk_of {G : GH} {a : BlkD} {cs : List Value} (h : RepRow G (bkDat a) cs) : cs = bkCells a := by
  simp only [bkDat, RepRow, RepV] at h
  obtain ⟨v1, _, rfl, ⟨rfl, -⟩, v2, _, rfl, ⟨rfl, -⟩, v3, _, rfl, ⟨rfl, -⟩, v4, _, rfl, ⟨rfl, -⟩, rfl⟩ := h
  rfl
theorem bk_at {A : List BlkD} {k : Nat} {args : List Value} {g : GH} (h : AtAP (A.map bkP) k args g) : ∃ hk : k < A.length, args = [.agg #[vi A[k].kind, vi A[k].from_, vi A[k].to, .bool A[k].mark]] := by
  obtain ⟨p, hp, hargs⟩ := h; rw [List.getElem?_map] at hp; obtain ⟨q, hq, rfl⟩ := Option.map_eq_some_iff.1 hp; obtain ⟨hk, rfl⟩ := List.getElem?_eq_some_iff.1 hq; exact ⟨hk, hargs⟩
theorem appendSeq_spec (G : GH) (w0 : World) (hG : Hold G w0) (A : List BlkD) (caps : List Value) (hit : Iter Tryz.prog G (.func (.func 169) #[] caps.toArray) (A.map bkP)) (hA : A.length ≤ 4294967296) :
    Calls Tryz.prog 168 #[.slice none 0 0, .func (.func 169) #[] caps.toArray] w0 (Ret w0 G fun u G' => RepV G' (.sl 4 (A.map bkDat)) u) := by
  have hml : 4294967297 ≤ maxLen := by decide
  refine enter (N := 13) (T := [(0, _), (1, _)]) (F := fun k => k < w0.heap.size) (L := []) Tryz.func168 rfl Tryz.ntmps168 rfl rfl hG (fun _ h => h) (fun _ h => by cases h) (fun _ h => by cases h) (fun _ h => by cases h) List.Pairwise.nil ?_; intro a H; refine c_seqR (fun _ hK1 => ?_); refine s_box (cs := [_]) H wn rfl rfl rfl ?_; clear H; intro b2 a w hb2 H; refine s_assign H wn rfl rfl ?_; clear H; intro a H; refine hK1 _ _ ?_; clear hK1; refine c_seq (fun _ hK2 => ?_); refine c_seqR (fun _ hK3 => ?_); refine s_move H wn rfl rfl ?_; clear H; intro a H; refine hK3 _ _ ?_; clear hK3; refine c_block ?_; skip; refine c_rangeJ (ι := Value × List Value × OL) (κ := Empty) (Lc := []) (fun (k : Nat) (gh : Value × List Value × OL) => [(b2, .cells #[gh.1] 84 (0, 0))]) (fun (k : Nat) (gh : Value × List Value × OL) => gh.2.2) (fun (k : Nat) (gh : Value × List Value × OL) (g : GH) => IsRow 91 4 gh.1 k gh.2.1 gh.2.2 ∧ RepCat g 4 ((A.take k).map bkDat) gh.2.1) (fun x => x.elim) (fun x => x.elim) (fun x => x.elim) (fun x => x.elim) ((.slice none 0 0, [], [])) (by exact H.nilT (A := [_])) rfl en169par (hit) (fun _ _ h => h) rfl (fun k args g h => by obtain ⟨_, rfl⟩ := bk_at h; rfl) (fun k i G G' hm h => ⟨h.1, h.2.mono hm⟩) (fun x => x.elim) (⟨IsRow.nil, RepCat.nil⟩) ?_ ?_ ?_
  · clear H; intro l2 rdy bsy bk k args gh G2 w2 F2 B2 a hk2 hm2 hI hbeg2 hnext2 hstop2 H; obtain ⟨v, xs, Lo⟩ := gh; dsimp only at hI H; obtain ⟨hk, rfl⟩ := bk_at hk2; dsimp only [asg, List.cons_append, List.nil_append] at H; obtain ⟨hrw, hcat⟩ := hI; refine c_region ?_; refine s_alloc ty91par H wn rfl ?_; clear H; intro b5 a w hb5 H; refine s_store ty91par 0 (vs := [_, _, _, _]) _ H wn rfl rfl rfl rfl rfl rfl rfl rfl ?_; clear H; intro w H; dsimp only [List.set, setRow] at H; refine wl_nil ?_; refine hbeg2 _ _ _ _ _ _ (by exact H.pickT (Pl := [_, _, _]) (Pl' := [_, _, _]) [1, 0, 2] (by decide) rfl) ?_; clear H; intro w H; refine c_block ?_; refine c_region ?_; refine s_load ty84pas H wn rfl (H.hp.ocell 2 rfl rfl) rfl ?_; clear H; intro a H; refine s_loada ty91par (cs := [_, _, _, _]) H wn rfl rfl (H.hp.ocells 1 rfl rfl) rfl ?_; clear H; intro a H; refine s_buildSlice un84pas ty91par [_, _, _, _] [_, _, _, _] H wn rfl rfl rfl rfl rfl (by intro i q h; match i, h with | 0, h => exact h | n + 1, h => simp at h) rfl rfl ?_; clear H; intro b10 a w hb10 H; refine s_append (Li := [_, _, _, _] ++ bk) (Lo := Lo) (news := bkCells A[k]) un84pas ty91par rfl rfl (St.un (A := [_, _, _, _]) H) wn rfl rfl hrw rfl (H.hp.ocells 0 rfl rfl) rfl (by omega) (by omega) rfl ?_; clear H; intro v11 Lo11 a w hrw11 H; obtain ⟨A11, c11, rfl, -, -⟩ := hrw11.shape
    simp only [List.append_assoc, List.cons_append, List.nil_append] at H
    refine s_store ty84pas 3 (vs := [_]) _ H wn rfl rfl rfl rfl rfl rfl rfl rfl ?_; clear H; intro w H; dsimp only [List.set, setRow] at H; refine wl_nil ?_; refine hnext2 ((.slice A11 (k + 1) c11, xs ++ bkCells A[k], Lo11)) _ _ _ _ _ (by exact H.pickT (Pl := [_, _, _, _]) (Pl' := [_, _]) [1, 3] (by decide) rfl) ?_; exact ⟨hrw11, by rw [List.take_succ_eq_append_getElem hk, List.map_append]; exact hcat.snoc (bk_row _ _) rfl⟩
  · clear H; intro Dk2 gh Gd2 a w hm2 hI H; obtain ⟨v, xs, Lo⟩ := gh; dsimp only at hI H; dsimp only [List.cons_append, List.nil_append, List.append_nil] at H; obtain ⟨hrw, hcat⟩ := hI; rw [List.length_map] at hrw hcat; rw [List.take_length] at hcat; refine hK2 _ _ ?_; clear hK2; refine c_seqR (fun _ hK4 => ?_); refine s_load ty84pas H wn rfl (H.hp.ocell 1 rfl rfl) rfl ?_; clear H; intro a H; refine s_assign H wn rfl rfl ?_; clear H; intro a H; refine hK4 _ _ ?_; clear hK4; refine c_ret ?_; refine (leaveM H 0 rfl ?_).1; clear H; intro a w H; dsimp only [List.eraseIdx_cons_succ, List.eraseIdx_cons_zero] at H; refine (leave1 H Tryz.results168 (.cons (rv_tmp H rfl) .nil) ?_).1; obtain ⟨Gr, hmr, hrep, H⟩ := St.giveRow (Li := [_]) H hrw (rows := A.map bkDat) (by simp) hcat; exact H.hp.ret hrep
  intro Dk x; exact x.elim
theorem blocks_spec (G : GH) (w0 : World) (hG : Hold G w0) (l : List ItemD) (v : Value) (hv : RepV G (.sl 11 (l.map ItemD.dat)) v) (hz : zItems l ≤ 4294967290) :
    Calls Tryz.prog 95 #[v] w0 (Ret w0 G fun u G' => ∃ bd, u = .func (.func 169) #[] #[.pointer (some ⟨bd, 0, none⟩)] ∧ Iter Tryz.prog G' u ((blkS 0 0 true l).map bkP)) := by
  obtain ⟨A, c, rfl, hc1, hc2, hg⟩ := hv.slice; refine enter (N := 4) (T := [(0, _)]) (F := fun k => k < w0.heap.size) (L := []) Tryz.func95 rfl Tryz.ntmps95 rfl rfl hG (fun _ h => h) (fun _ h => by cases h) (fun _ h => by cases h) (fun _ h => by cases h) List.Pairwise.nil ?_; intro a H; refine c_seqR (fun _ hK1 => ?_); refine s_box (cs := [_]) H wn rfl rfl rfl ?_; clear H; intro b1 a w hb1 H; refine s_assign H wn rfl rfl ?_; clear H; intro a H; refine hK1 _ _ ?_; clear hK1; refine c_seqR (fun _ hK2 => ?_); refine s_makeFunc H wn rfl rfl ?_; clear H; intro a H; refine s_assign H wn rfl rfl ?_; clear H; intro a H; refine hK2 _ _ ?_; clear hK2; refine c_ret ?_; obtain ⟨G2, hm2, hb1, H⟩ := H.giveBox; refine (leave1 H Tryz.results95 (.cons (rv_tmp H rfl) .nil) ?_).1; exact H.hp.ret ⟨b1, rfl, blocks1_iter (by unfold gcell; rw [hb1]; rfl) (hv.mono hm2) hz⟩
theorem collect_spec (G : GH) (w0 : World) (hG : Hold G w0) (A : List BlkD) (caps : List Value) (hit : Iter Tryz.prog G (.func (.func 169) #[] caps.toArray) (A.map bkP)) (hA : A.length ≤ 4294967296) :
    Calls Tryz.prog 94 #[.func (.func 169) #[] caps.toArray] w0 (Ret w0 G fun u G' => RepV G' (.sl 4 (A.map bkDat)) u) := by
  refine enter (N := 5) (T := [(0, _)]) (F := fun k => k < w0.heap.size) (L := []) Tryz.func94 rfl Tryz.ntmps94 rfl rfl hG (fun _ h => h) (fun _ h => by cases h) (fun _ h => by cases h) (fun _ h => by cases h) List.Pairwise.nil ?_; intro a H; refine c_seqR (fun _ hK1 => ?_); refine s_assign H wn rfl rfl ?_; clear H; intro a H; refine hK1 _ _ ?_; clear hK1; refine c_seqR (fun _ hK2 => ?_); refine s_move H wn rfl rfl ?_; clear H; intro a H; refine s_call en168pas H wn rfl (appendSeq_spec _ _ H.hp.ro A caps hit hA) rfl ?_; clear H; rintro v4 G4 a w hp4 hm4 H; refine s_assign H wn rfl rfl ?_; clear H; intro a H; refine hK2 _ _ ?_; clear hK2; refine c_ret ?_; refine (leave1 H Tryz.results94 (.cons (rv_tmp H rfl) .nil) ?_).1; exact H.hp.ret hp4
/-- What Blocks gives. -/
def blocksS (l : List ItemD) : List BlkD := if lenE l = 0 then blkS 0 0 true l else []
theorem Blocks_spec (G : GH) (w0 : World) (hG : Hold G w0) (l : List ItemD) (v : Value) (hv : RepV G (.sl 11 (l.map ItemD.dat)) v) (hz : zItems l ≤ 1073741824) :
    Calls Tryz.prog 35 #[v] w0 (Ret w0 G fun u G' => ∃ x, u = .tuple #[x, vi (lenE l)] ∧ RepV G' (.sl 4 ((blocksS l).map bkDat)) x) := by
  have hbl := blkS_len l 0 0 true; have hll := zItems_length l; refine enter (N := 17) (T := [(0, _)]) (F := fun k => k < w0.heap.size) (L := []) Tryz.func35 rfl Tryz.ntmps35 rfl rfl hG (fun _ h => h) (fun _ h => by cases h) (fun _ h => by cases h) (fun _ h => by cases h) List.Pairwise.nil ?_; intro a H; refine c_seqR (fun _ hK1 => ?_); (iterate 2 refine s_assign H wn rfl rfl ?_; clear H; intro a H); refine hK1 _ _ ?_; clear hK1; refine c_seq (fun _ hK2 => ?_); refine c_seqR (fun _ hK3 => ?_); refine s_move H wn rfl rfl ?_; clear H; intro a H; refine s_call en8par H wn rfl (len_spec _ _ H.hp.ro l v hv (by omega)) rfl ?_; clear H; rintro v7 G7 a w ⟨rfl, rfl⟩ hm7 H; refine s_move H wn rfl rfl ?_; clear H; intro a H; (iterate 2 refine s_extract H wn rfl rfl rfl ?_; clear H; intro a H); (iterate 2 refine s_assign H wn rfl rfl ?_; clear H; intro a H); refine hK3 _ _ ?_; clear hK3; refine c_seqR (fun _ hK4 => ?_); refine s_move H wn rfl rfl ?_; clear H; intro a H; refine s_cmp H wn rfl rfl rfl rfl ?_; clear H; intro a H; refine hK4 _ _ ?_; clear hK4; refine c_cond H rfl ?_ ?_
  · intro h12
    try have p12 := of_decide_eq_true h12
    refine c_seqR (fun _ hK5 => ?_); refine s_move H wn rfl rfl ?_; clear H; intro a H; (iterate 2 refine s_assign H wn rfl rfl ?_; clear H; intro a H); refine hK5 _ _ ?_; clear hK5; refine c_ret ?_; refine (leaveT H Tryz.results35 (.cons (rv_tmp H rfl) (.cons (rv_tmp H rfl) .nil)) ?_).1; exact H.hp.ret ⟨_, rfl, by rw [blocksS, if_neg p12]; exact RepV.nil_ rfl (by decide)⟩
  intro h12
  try have p12 := of_decide_eq_false h12
  refine c_skip ?_; refine hK2 _ _ ?_; clear hK2; refine c_seqR (fun _ hK6 => ?_); refine s_move H wn rfl rfl ?_; clear H; intro a H; refine s_call en95pas H wn rfl (blocks_spec _ _ H.hp.ro l v hv (by omega)) rfl ?_; clear H; rintro v13 G13 a w ⟨bd, rfl, hit⟩ hm13 H; refine s_call en94pas H wn rfl (collect_spec _ _ H.hp.ro (blkS 0 0 true l) [.pointer (some ⟨bd, 0, none⟩)] hit (by omega)) rfl ?_; clear H; rintro v16 G16 a w hp16 hm16 H; obtain ⟨A16, n16, c16, rfl⟩ := hp16.form; (iterate 2 refine s_assign H wn rfl rfl ?_; clear H; intro a H); refine hK6 _ _ ?_; clear hK6; refine c_ret ?_; refine (leaveT H Tryz.results35 (.cons (rv_tmp H rfl) (.cons (rv_tmp H rfl) .nil)) ?_).1
  have h0 : lenE l = 0 := by omega
  exact H.hp.ret ⟨_, by rw [h0], by rw [blocksS, if_pos h0]; exact hp16⟩
def blk0 : BlkD := ⟨0, 0, 0, false⟩
def inBlk (unit : Int) (b : BlkD) : Bool := decide (b.from_ ≤ unit) && decide (unit < b.to)
/-- What At gives. -/
def atS (l : List ItemD) (unit : Int) : BlkD × Int :=
  if lenE l = 0 then match (blocksS l).find? (inBlk unit) with | some b => (b, 0) | none => (blk0, 2) else (blk0, lenE l)
abbrev bkV (b : BlkD) : Value := .agg #[vi b.kind, vi b.from_, vi b.to, .bool b.mark]
theorem at_spec (G : GH) (w0 : World) (hG : Hold G w0) (l : List ItemD) (unit : Int) (v : Value) (hv : RepV G (.sl 11 (l.map ItemD.dat)) v) (hz : zItems l ≤ 1073741824) :
    Calls Tryz.prog 101 #[v, vi unit] w0 (Ret w0 G fun u G' => u = .tuple #[bkV (atS l unit).1, vi (atS l unit).2]) := by
  have hbl := blkS_len l 0 0 true; have hll := zItems_length l; refine enter (N := 38) (T := [(0, _), (1, _)]) (F := fun k => k < w0.heap.size) (L := []) Tryz.func101 rfl Tryz.ntmps101 rfl rfl hG (fun _ h => h) (fun _ h => by cases h) (fun _ h => by cases h) (fun _ h => by cases h) List.Pairwise.nil ?_; intro a H; refine c_seqR (fun _ hK1 => ?_); refine s_alloc ty91par H wn rfl ?_; clear H; intro b4 a w hb4 H; refine s_assign H wn rfl rfl ?_; clear H; intro a H; refine hK1 _ _ ?_; clear hK1; refine c_seqR (fun _ hK2 => ?_); refine s_move H wn rfl rfl ?_; clear H; intro a H; refine s_call en35pas H wn rfl (Blocks_spec _ _ H.hp.ro l v hv hz) rfl ?_; clear H; rintro v12 G12 a w ⟨x, rfl, hrep⟩ hm12 H; obtain ⟨A12, n12, c12, rfl⟩ := hrep.form; have hn12 := hrep.len; rw [List.length_map] at hn12; refine s_move H wn rfl rfl ?_; clear H; intro a H; (iterate 2 refine s_extract H wn rfl rfl rfl ?_; clear H; intro a H); (iterate 2 refine s_assign H wn rfl rfl ?_; clear H; intro a H); refine hK2 _ _ ?_; clear hK2; refine c_seq (fun _ hK3 => ?_); refine c_seqR (fun _ hK4 => ?_); refine s_move H wn rfl rfl ?_; clear H; intro a H; refine s_cmp H wn rfl rfl rfl rfl ?_; clear H; intro a H; refine hK4 _ _ ?_; clear hK4; refine c_cond H rfl ?_ ?_
  · intro h16
    try have p16 := of_decide_eq_true h16
    refine c_seqR (fun _ hK5 => ?_); refine s_build sr91par [_, _, _, _] H wn rfl rfl rfl rfl ?_; clear H; intro a H; refine s_move H wn rfl rfl ?_; clear H; intro a H; refine s_store ty91par 0 (vs := [_, _, _, _]) _ H wn rfl rfl rfl rfl rfl rfl rfl rfl ?_; clear H; intro w H; dsimp only [List.set, setRow] at H; refine s_assign H wn rfl rfl ?_; clear H; intro a H; refine hK5 _ _ ?_; clear hK5; refine c_ret ?_; refine (leaveT H Tryz.results101 (.cons (rv_cella ty91par (cs := [_, _, _, _]) H rfl rfl (H.hp.ocells 0 rfl rfl)) (.cons (rv_tmp H rfl) .nil)) ?_).1; exact H.hp.ret (by rw [atS, if_neg p16]; try rfl)
  intro h16
  try have p16 := of_decide_eq_false h16
  have h0 : lenE l = 0 := by omega
  have hb0 : blocksS l = blkS 0 0 true l := by rw [blocksS, if_pos h0]
  have hn13 : n12 ≤ 4294967296 := by rw [hn12, hb0]; omega
  refine c_skip ?_; refine hK3 _ _ ?_; clear hK3; refine c_seq (fun _ hK6 => ?_); refine c_seqR (fun _ hK7 => ?_); refine s_move H wn rfl rfl ?_; clear H; intro a H; refine s_len un84pas H wn rfl rfl ?_; clear H; intro a H; refine s_move H wn rfl rfl ?_; clear H; intro a H; refine hK7 _ _ ?_; clear hK7; refine c_block ?_; skip; refine c_loopS (ι := Nat) (Tc := [(1, _), (4, _), (19, _), (20, _)]) (Lc := [(_, _)]) (fun (gh : Nat) => [(21, vi gh)]) (fun (gh : Nat) => []) (fun (gh : Nat) => G12) (fun (gh : Nat) => gh ≤ (blocksS l).length ∧ ((blocksS l).take gh).find? (inBlk unit) = none) (fun (gh : Nat) => (blocksS l).length - gh) (0) (by exact (H).sub ⟨rfl, rfl, rfl, rfl, rfl, trivial⟩) ?_ ?_
  · exact ⟨by omega, rfl⟩
  clear H; intro gh a w hI H; obtain ⟨k, hgh⟩ : ∃ x, x = gh := ⟨_, rfl⟩; subst hgh; obtain ⟨hk, hno⟩ := hI; dsimp only [List.cons_append, List.nil_append, List.append_nil] at H; refine c_seqR (fun _ hK8 => ?_); refine s_cmp H wn rfl rfl rfl rfl ?_; clear H; intro a H; refine hK8 _ _ ?_; clear hK8; refine c_seq (fun _ hK9 => ?_); refine c_cond H rfl ?_ ?_
  · intro h22
    try have p22 := of_decide_eq_true h22
    have hk2 : k < (blocksS l).length := by omega
    obtain ⟨b, o, cs, rfl, hcl, hrow, hr⟩ := hrep.at_ k (bkDat (blocksS l)[k]) (by simp [hk2]); obtain rfl := bk_of hr; refine c_skip ?_; refine hK9 _ _ ?_; clear hK9; refine c_seq (fun _ hK10 => ?_); refine c_block ?_; refine c_seqR (fun _ hK11 => ?_); refine s_index un84pas ty91par _ H wn rfl rfl rfl (by first | assumption | omega) rfl ?_; clear H; intro a H; refine s_loada ty91par (cs := [_, _, _, _]) H wn rfl rfl (fun j v hj => H.hp.gcell (hrow j v hj)) rfl ?_; clear H; intro a H; refine s_alloc ty91par H wn rfl ?_; clear H; intro b9 a w hb9 H; refine s_store ty91par 0 (vs := [_, _, _, _]) _ H wn rfl rfl rfl rfl rfl rfl rfl rfl ?_; clear H; intro w H; dsimp only [List.set, setRow] at H; refine hK11 _ _ ?_; clear hK11; refine c_seqR (fun _ hK12 => ?_); refine s_field fd91_1pas H wn rfl rfl ?_; clear H; intro a H; refine s_load ty3run H wn rfl (H.hp.ocell 0 rfl rfl) rfl ?_; clear H; intro a H; refine s_move H wn rfl rfl ?_; clear H; intro a H; refine s_cmp H wn rfl rfl rfl rfl ?_; clear H; intro a H; refine s_move H wn rfl rfl ?_; clear H; intro a H; refine s_split H 29 rfl ?_ ?_
    · intro h29
      try have p29 := of_decide_eq_true h29
      refine s_move H (wg H rfl rfl h29) rfl rfl ?_; clear H; intro a H; refine s_field fd91_2pas H (wg H rfl rfl h29) rfl rfl ?_; clear H; intro a H; refine s_load ty3run H (wg H rfl rfl h29) rfl (H.hp.ocell 0 rfl rfl) rfl ?_; clear H; intro a H; refine s_cmp H (wg H rfl rfl h29) rfl rfl rfl rfl ?_; clear H; intro a H; refine s_pick_t H wn rfl h29 rfl rfl ?_; clear H; intro a H; refine hK12 _ _ ?_; clear hK12; refine c_cond H rfl ?_ ?_
      · intro h34
        try have p34 := of_decide_eq_true h34
        refine c_seqR (fun _ hK13 => ?_); refine s_loada ty91par (cs := [_, _, _, _]) H wn rfl rfl (H.hp.ocells 0 rfl rfl) rfl ?_; clear H; intro a H; refine s_store ty91par 1 (vs := [_, _, _, _]) _ H wn rfl rfl rfl rfl rfl rfl rfl rfl ?_; clear H; intro w H; dsimp only [List.set, setRow] at H; refine s_assign H wn rfl rfl ?_; clear H; intro a H; refine hK13 _ _ ?_; clear hK13; refine c_ret ?_; refine (leaveT H Tryz.results101 (.cons (rv_cella ty91par (cs := [_, _, _, _]) H rfl rfl (H.hp.ocells 1 rfl rfl)) (.cons (rv_tmp H rfl) .nil)) ?_).1; exact H.hp.ret (by rw [atS, if_pos h0, find_stop hk2 hno (by simp only [inBlk, h29, h34, Bool.true_and])]; try rfl)
      intro h34
      try have p34 := of_decide_eq_false h34
      refine c_skip ?_; refine hK10 _ _ ?_; clear hK10; refine c_region ?_; refine s_add _ H wn rfl rfl rfl (by omega) (by omega) rfl ?_; clear H; intro a H; refine s_move H wn rfl rfl ?_; clear H; intro a H; refine wl_nil ?_; refine loop_end ((k + 1)) (by exact (H.pickT (Pl := [_, _]) (Pl' := [_]) [1] (by decide) rfl).sub ⟨rfl, rfl, rfl, rfl, rfl, trivial⟩) ?_ ?_
      · exact ⟨by omega, find_next hk2 hno (by simp only [inBlk, h29, h34, Bool.true_and])⟩
      first | omega | (dsimp only; omega)
    intro h29
    try have p29 := of_decide_eq_false h29
    (iterate 4 refine s_skip H rfl rfl h29 rfl ?_; clear H; intro a H); refine s_pick_f H wn rfl h29 rfl rfl ?_; clear H; intro a H; refine hK12 _ _ ?_; clear hK12; refine c_cond_f H rfl rfl ?_; refine c_skip ?_; refine hK10 _ _ ?_; clear hK10; refine c_region ?_; refine s_add _ H wn rfl rfl rfl (by omega) (by omega) rfl ?_; clear H; intro a H; refine s_move H wn rfl rfl ?_; clear H; intro a H; refine wl_nil ?_; refine loop_end ((k + 1)) (by exact (H.pickT (Pl := [_, _]) (Pl' := [_]) [1] (by decide) rfl).sub ⟨rfl, rfl, rfl, rfl, rfl, trivial⟩) ?_ ?_
    · exact ⟨by omega, find_next hk2 hno (by simp only [inBlk, h29, Bool.false_and])⟩
    first | omega | (dsimp only; omega)
  intro h22
  try have p22 := of_decide_eq_false h22
  refine c_exit ?_; refine hK6 _ _ ?_; clear hK6; refine c_seqR (fun _ hK14 => ?_); refine s_build sr91par [_, _, _, _] H wn rfl rfl rfl rfl ?_; clear H; intro a H; refine s_store ty91par 0 (vs := [_, _, _, _]) _ H wn rfl rfl rfl rfl rfl rfl rfl rfl ?_; clear H; intro w H; dsimp only [List.set, setRow] at H; refine s_assign H wn rfl rfl ?_; clear H; intro a H; refine hK14 _ _ ?_; clear hK14; refine c_ret ?_; refine (leaveT H Tryz.results101 (.cons (rv_cella ty91par (cs := [_, _, _, _]) H rfl rfl (H.hp.ocells 0 rfl rfl)) (.cons (rv_tmp H rfl) .nil)) ?_).1; exact H.hp.ret (by rw [show (blocksS l).take k = blocksS l from List.take_of_length_le (by omega)] at hno; rw [atS, if_pos h0, hno]; try rfl)
end
section
open Go.RowKit
end
section
open Go.RowKit
theorem eqs91l14b : EqS Tryz.prog 91 [(0, false), (1, false), (2, false), (3, true)] := ⟨by kernel_rfl, by kernel_rfl, by kernel_rfl, by kernel_rfl, by kernel_rfl⟩
theorem blk_neq (a b : BlkD) : Value.bool (if BinOp.neq = BinOp.eql then [(0, false), (1, false), (2, false), (3, true)].all fun o => getV #[vi a.kind, vi a.from_, vi a.to, .bool a.mark] o == getV #[vi b.kind, vi b.from_, vi b.to, .bool b.mark] o else !([(0, false), (1, false), (2, false), (3, true)].all fun o => getV #[vi a.kind, vi a.from_, vi a.to, .bool a.mark] o == getV #[vi b.kind, vi b.from_, vi b.to, .bool b.mark] o)) = .bool (decide (¬ a = b)) := by
  congr 1
  have h := BlkD.eq_iff a b; rw [Bool.eq_iff_iff]
  simp only [decide_eq_true_eq]
  rw [← h]
  simp [getV]
  by_cases h1 : a.kind = b.kind <;> by_cases h2 : a.from_ = b.from_ <;> by_cases h3 : a.to = b.to <;> by_cases h4 : a.mark = b.mark <;> simp [h1, h2, h3, h4]
theorem same14_spec (G : GH) (w0 : World) (hG : Hold G w0) (A B : List BlkD) (v u : Value) (hv : RepV G (.sl 4 (A.map bkDat)) v) (hu : RepV G (.sl 4 (B.map bkDat)) u) :
    Calls Tryz.prog 40 #[v, u] w0 (Ret w0 G fun r G' => ∃ b, r = .bool b ∧ (A = B → b = true) ∧ (b = true → A = B)) := by
  obtain ⟨vA, vc, rfl, hc1, hc2, hg⟩ := hv.slice; obtain ⟨uA, uc, rfl, hd1, hd2, hh⟩ := hu.slice; have hml : maxLen = 9223372036854775807 := rfl; (iterate 2 rw [List.length_map] at *); refine enter (N := 26) (T := [(0, _), (1, _)]) (F := fun k => k < w0.heap.size) (L := []) Tryz.func40 rfl Tryz.ntmps40 rfl rfl hG (fun _ h => h) (fun _ h => by cases h) (fun _ h => by cases h) (fun _ h => by cases h) List.Pairwise.nil ?_; intro a H; refine c_seqR (fun _ hK1 => ?_); refine s_assign H wn rfl rfl ?_; clear H; intro a H; refine hK1 _ _ ?_; clear hK1; refine c_seq (fun _ hK2 => ?_); refine c_seqR (fun _ hK3 => ?_); refine s_move H wn rfl rfl ?_; clear H; intro a H; refine s_len un84pas H wn rfl rfl ?_; clear H; intro a H; refine s_move H wn rfl rfl ?_; clear H; intro a H; refine s_len un84pas H wn rfl rfl ?_; clear H; intro a H; refine s_cmp H wn rfl rfl rfl rfl ?_; clear H; intro a H; refine hK3 _ _ ?_; clear hK3; refine c_cond H rfl ?_ ?_
  · intro h10
    try have p10 := of_decide_eq_true h10
    refine c_seqR (fun _ hK4 => ?_); refine s_assign H wn rfl rfl ?_; clear H; intro a H; refine hK4 _ _ ?_; clear hK4; refine c_ret ?_; refine (leave1 H Tryz.results40 (.cons (rv_tmp H rfl) .nil) ?_).1; exact H.hp.ret ⟨_, rfl, fun e => absurd (congrArg List.length e) (by omega), fun e => (by cases e)⟩
  intro h10
  try have p10 := of_decide_eq_false h10
  refine c_skip ?_; refine hK2 _ _ ?_; clear hK2; refine c_seq (fun _ hK5 => ?_); refine c_seqR (fun _ hK6 => ?_); refine s_assign H wn rfl rfl ?_; clear H; intro a H; refine hK6 _ _ ?_; clear hK6; refine c_block ?_; skip; refine c_loopS (ι := Nat × GH) (Tc := [(0, _), (1, _)]) (Lc := []) (fun (gh : Nat × GH) => [(5, vi gh.1)]) (fun (gh : Nat × GH) => []) (fun (gh : Nat × GH) => gh.2) (fun (gh : Nat × GH) => gh.1 ≤ A.length ∧ A.take gh.1 = B.take gh.1 ∧ (∀ b o, G b = some o → gh.2 b = some o)) (fun (gh : Nat × GH) => A.length - gh.1) ((0, G)) (by exact (H).sub ⟨rfl, rfl, rfl, trivial⟩) ?_ ?_
  · exact ⟨by omega, rfl, fun _ _ h => h⟩
  clear H; intro gh a w hI H; obtain ⟨k, g⟩ := gh; dsimp only at hI H; obtain ⟨hk, hsame, hgm⟩ := hI; dsimp only [List.cons_append, List.nil_append, List.append_nil] at H; refine c_seq (fun _ hK7 => ?_); refine c_seqR (fun _ hK8 => ?_); (iterate 2 refine s_move H wn rfl rfl ?_; clear H; intro a H); refine s_len un84pas H wn rfl rfl ?_; clear H; intro a H; refine s_cmp H wn rfl rfl rfl rfl ?_; clear H; intro a H; refine hK8 _ _ ?_; clear hK8; refine c_cond H rfl ?_ ?_
  · intro h14
    try have p14 := of_decide_eq_true h14
    have hk2 : k < A.length := by omega
    have hk3 : k < B.length := by omega
    obtain ⟨b1, o1, cs1, rfl, hcl1, hrow1, hr1⟩ := hg k (bkDat A[k]) (by simp [hk2]); obtain rfl := bk_of hr1; obtain ⟨b2, o2, cs2, rfl, hcl2, hrow2, hr2⟩ := hh k (bkDat B[k]) (by simp [hk3]); obtain rfl := bk_of hr2; refine c_skip ?_; refine hK7 _ _ ?_; clear hK7; refine c_seq (fun _ hK9 => ?_); refine c_block ?_; refine c_seq (fun _ hK10 => ?_); refine c_drawI (hmx) [[], [], [0, 1], [0, 1, 2], [], [], [4, 5], [4, 5, 6], [0, 1, 2, 3, 4, 5, 6, 7]] [] (by kernel_rfl) (by kernel_rfl) (fun (ix_ : Nat) (v : Value) (G : GH) => match ix_ with | 0 => v = .slice (some ⟨b1, o1, none⟩) A.length vc | 1 => v = vi k | 2 => v = .pointer (some ⟨b1, o1 + k * 4, none⟩) | 3 => v = bkV A[k] | 4 => v = .slice (some ⟨b2, o2, none⟩) B.length uc | 5 => v = vi k | 6 => v = .pointer (some ⟨b2, o2 + k * 4, none⟩) | 7 => v = bkV B[k] | 8 => v = .bool (decide (¬ A[k] = B[k])) | _ => True) (fun _ _ _ _ _ h => h) H ?_ ?_
    · clear H; refine (allI_cons ?_ (allI_cons ?_ (allI_cons ?_ (allI_cons ?_ (allI_cons ?_ (allI_cons ?_ (allI_cons ?_ (allI_cons ?_ (allI_cons ?_ allI_nil)))))))))
      · refine opI [] rfl trivial (by kernel_rfl) (fun _ _ _ _ _ h => h) rfl rfl ?_; intro Sd_ a w G1 hG HT H fin; refine s_move H wn rfl rfl ?_; clear H; intro a H; exact fin H (fun _ _ h => h) (rfl)
      · refine opI [] rfl trivial (by kernel_rfl) (fun _ _ _ _ _ h => h) rfl rfl ?_; intro Sd_ a w G1 hG HT H fin; refine s_move H wn rfl rfl ?_; clear H; intro a H; exact fin H (fun _ _ h => h) (rfl)
      · refine opI [(0, 17, _), (1, 18, _)] rfl ⟨fun _ _ h => h, fun _ _ h => h, trivial⟩ (by kernel_rfl) (fun _ _ _ _ _ h => h) rfl rfl ?_; intro Sd_ a w G1 hG HT H fin; refine s_index un84pas ty91par _ H wn rfl rfl rfl (by first | assumption | omega) rfl ?_; clear H; intro a H; exact fin H (fun _ _ h => h) (rfl)
      · refine opI [(2, 19, _)] rfl ⟨fun _ _ h => h, trivial⟩ (by kernel_rfl) (fun _ _ _ _ _ h => h) rfl rfl ?_; intro Sd_ a w G1 hG HT H fin; refine s_loada ty91par (cs := [_, _, _, _]) H wn rfl rfl (fun j v hj => H.hp.gcell (gcell_mono hG (gcell_mono hgm (hrow1 j v hj)))) rfl ?_; clear H; intro a H; exact fin H (fun _ _ h => h) (rfl)
      · refine opI [] rfl trivial (by kernel_rfl) (fun _ _ _ _ _ h => h) rfl rfl ?_; intro Sd_ a w G1 hG HT H fin; refine s_move H wn rfl rfl ?_; clear H; intro a H; exact fin H (fun _ _ h => h) (rfl)
      · refine opI [] rfl trivial (by kernel_rfl) (fun _ _ _ _ _ h => h) rfl rfl ?_; intro Sd_ a w G1 hG HT H fin; refine s_move H wn rfl rfl ?_; clear H; intro a H; exact fin H (fun _ _ h => h) (rfl)
      · refine opI [(4, 21, _), (5, 22, _)] rfl ⟨fun _ _ h => h, fun _ _ h => h, trivial⟩ (by kernel_rfl) (fun _ _ _ _ _ h => h) rfl rfl ?_; intro Sd_ a w G1 hG HT H fin; refine s_index un84pas ty91par _ H wn rfl rfl rfl (by first | assumption | omega) rfl ?_; clear H; intro a H; exact fin H (fun _ _ h => h) (rfl)
      · refine opI [(6, 23, _)] rfl ⟨fun _ _ h => h, trivial⟩ (by kernel_rfl) (fun _ _ _ _ _ h => h) rfl rfl ?_; intro Sd_ a w G1 hG HT H fin; refine s_loada ty91par (cs := [_, _, _, _]) H wn rfl rfl (fun j v hj => H.hp.gcell (gcell_mono hG (gcell_mono hgm (hrow2 j v hj)))) rfl ?_; clear H; intro a H; exact fin H (fun _ _ h => h) (rfl)
      refine opI [(3, 20, _), (7, 24, _)] rfl ⟨fun _ _ h => h, fun _ _ h => h, trivial⟩ (by kernel_rfl) (fun _ _ _ _ _ h => h) rfl rfl ?_; intro Sd_ a w G1 hG HT H fin; refine s_eqs (.inr rfl) eqs91l14b H wn rfl rfl rfl rfl ?_; clear H; intro a H; exact fin H (fun _ _ h => h) (blk_neq _ _)
    clear H; intro a w G hGm6 H hv; obtain ⟨u25, hu25, hp25⟩ := hv 8 25 (by decide) rfl; obtain rfl : u25 = .bool (decide (¬ A[k] = B[k])) := hp25; have H := H.addS hu25; clear hv; refine wl_nil ⟨rfl, ?_⟩; refine hK10 _ _ ?_; clear hK10; refine c_cond H rfl ?_ ?_
    · intro h25
      try have p25 := of_decide_eq_true h25
      refine c_seqR (fun _ hK11 => ?_); refine s_assign H wn rfl rfl ?_; clear H; intro a H; refine hK11 _ _ ?_; clear hK11; refine c_ret ?_; refine (leave1 H Tryz.results40 (.cons (rv_tmp H rfl) .nil) ?_).1; exact H.hp.ret ⟨_, rfl, fun e => absurd (by subst e; rfl) p25, fun e => (by cases e)⟩
    intro h25
    try have p25 := of_decide_eq_false h25
    refine c_skip ?_; refine hK9 _ _ ?_; clear hK9; refine c_region ?_; refine s_move H wn rfl rfl ?_; clear H; intro a H; refine s_add _ H wn rfl rfl rfl (by omega) (by omega) rfl ?_; clear H; intro a H; refine s_assign H wn rfl rfl ?_; clear H; intro a H; refine wl_nil ?_; refine loop_end ((k + 1, G)) (by exact (H).sub ⟨rfl, rfl, rfl, trivial⟩) ?_ ?_
    · (try dsimp only); exact ⟨by omega, by rw [List.take_succ_eq_append_getElem hk2, List.take_succ_eq_append_getElem hk3, hsame, Decidable.not_not.1 p25], fun b o h => hGm6 b o (hgm b o h)⟩
    first | omega | (dsimp only; omega)
  intro h14
  try have p14 := of_decide_eq_false h14
  refine c_exit ?_; refine hK5 _ _ ?_; clear hK5; refine c_seqR (fun _ hK12 => ?_); refine s_assign H wn rfl rfl ?_; clear H; intro a H; refine hK12 _ _ ?_; clear hK12; refine c_ret ?_; refine (leave1 H Tryz.results40 (.cons (rv_tmp H rfl) .nil) ?_).1; exact H.hp.ret ⟨_, rfl, fun _ => rfl, fun _ => (by rw [List.take_of_length_le (by omega), List.take_of_length_le (by omega)] at hsame; exact hsame)⟩
end
section
open Go.RowKit
theorem un38l14c : Tryz.prog.underlying 38 = some (.slice 3) := by kernel_rfl
/-- The kinds of the units. -/
def kindsS (l : List ItemD) : List Int := l.flatMap fun x => List.replicate (n1 x) x.kind
def intDat (k : Int) : List Dat := [li k]
theorem int_row (G : GH) (k : Int) : RepRow G (intDat k) [vi k] := by
  simp only [intDat, RepRow]
  exact ⟨_, _, rfl, by simp [RepV, Value.oneCell'], rfl⟩
theorem int_of {G : GH} {k : Int} {cs : List Value} (h : RepRow G (intDat k) cs) : cs = [vi k] := by
  simp only [intDat, RepRow, RepV] at h
  obtain ⟨v1, _, rfl, ⟨rfl, -⟩, rfl⟩ := h
  rfl
theorem kindsS_len : ∀ l : List ItemD, (kindsS l).length ≤ zItems l
  | [] => Nat.le_refl _
  | x :: l => by
    have := kindsS_len l; have h2 := n1_le x
    simp only [kindsS, List.flatMap_cons, List.length_append, List.length_replicate, zItems, List.map_cons, szRs] at *; omega
theorem kindsS_append (l m : List ItemD) : kindsS (l ++ m) = kindsS l ++ kindsS m := by simp [kindsS]
theorem kindsS_one (x : ItemD) : kindsS [x] = List.replicate (n1 x) x.kind := by simp [kindsS]
theorem zItems_append (l m : List ItemD) : zItems (l ++ m) = zItems l + zItems m := by simp [zItems, szRs_append]
theorem n1_not {x : ItemD} (h : ¬ x.kind = 1) : n1 x = 1 := by simp [n1, unitsE, unitsS, h]
theorem kinds_spec (G : GH) (w0 : World) (hG : Hold G w0) (l : List ItemD) (v : Value) (hv : RepV G (.sl 11 (l.map ItemD.dat)) v) (hz : zItems l ≤ 1073741824) :
    Calls Tryz.prog 100 #[v] w0 (Ret w0 G fun u G' => RepV G' (.sl 1 ((kindsS l).map intDat)) u) := by
  obtain ⟨A, c, rfl, hc1, hc2, hg⟩ := hv.slice; rw [List.length_map] at *; have hll := zItems_length l
  have hml : 4294967297 ≤ maxLen := by decide
  refine enter (N := 42) (T := [(0, _)]) (F := fun k => k < w0.heap.size) (L := []) Tryz.func100 rfl Tryz.ntmps100 rfl rfl hG (fun _ h => h) (fun _ h => by cases h) (fun _ h => by cases h) (fun _ h => by cases h) List.Pairwise.nil ?_; intro a H; refine c_seqR (fun _ hK1 => ?_); refine s_assign H wn rfl rfl ?_; clear H; intro a H; refine hK1 _ _ ?_; clear hK1; refine c_seqR (fun _ hK2 => ?_); refine s_assign H wn rfl rfl ?_; clear H; intro a H; refine hK2 _ _ ?_; clear hK2; refine c_seq (fun _ hK3 => ?_); refine c_seqR (fun _ hK4 => ?_); refine s_assign H wn rfl rfl ?_; clear H; intro a H; refine hK4 _ _ ?_; clear hK4; refine c_block ?_; skip; refine c_loopS (ι := Nat × Value × List Value × OL) (Tc := [(0, _)]) (Lc := []) (fun (gh : Nat × Value × List Value × OL) => [(3, gh.2.1), (4, vi gh.1)]) (fun (gh : Nat × Value × List Value × OL) => [] ++ gh.2.2.2) (fun (gh : Nat × Value × List Value × OL) => G) (fun (gh : Nat × Value × List Value × OL) => gh.1 ≤ l.length ∧ IsRow 3 1 gh.2.1 (kindsS (l.take gh.1)).length gh.2.2.1 gh.2.2.2 ∧ RepCat G 1 ((kindsS (l.take gh.1)).map intDat) gh.2.2.1) (fun (gh : Nat × Value × List Value × OL) => l.length - gh.1) ((0, .slice none 0 0, [], [])) (by exact (H).sub ⟨rfl, rfl, rfl, trivial⟩) ?_ ?_
  · exact ⟨by omega, IsRow.nil, RepCat.nil⟩
  clear H; intro gh a w hI H; obtain ⟨k, v, xs, Lo⟩ := gh; dsimp only at hI H; obtain ⟨hk, hrw, hcat⟩ := hI; dsimp only [List.cons_append, List.nil_append, List.append_nil] at H; refine c_seq (fun _ hK5 => ?_); refine c_seqR (fun _ hK6 => ?_); (iterate 2 refine s_move H wn rfl rfl ?_; clear H; intro a H); refine s_len un32run H wn rfl rfl ?_; clear H; intro a H; refine s_cmp H wn rfl rfl rfl rfl ?_; clear H; intro a H; refine hK6 _ _ ?_; clear hK6; refine c_cond H rfl ?_ ?_
  · intro h10
    try have p10 := of_decide_eq_true h10
    have hk2 : k < l.length := by omega
    obtain ⟨b, o, pA, pn, pc, dA, dn, dc, yA, yn, yc, fA, fn, fc, rA, rn, rc, rfl, hrow, hhd, hfl, hrw'⟩ := flow_get hk2 hg; have hkl := kindsS_len (l.take k ++ [l[k]]); rw [← List.take_succ_eq_append_getElem hk2] at hkl; have hzt := zItems_append (l.take (k + 1)) (l.drop (k + 1)); rw [List.take_append_drop] at hzt
    have hks0 : kindsS (l.take (k + 1)) = kindsS (l.take k) ++ List.replicate (n1 l[k]) l[k].kind := by rw [List.take_succ_eq_append_getElem hk2, kindsS_append, kindsS_one]
    have hlk : (kindsS (l.take k)).length + n1 l[k] ≤ 1073741824 := by
      have := congrArg List.length hks0; rw [List.length_append, List.length_replicate] at this
      omega
    have hc3 : ¬ c = k := by omega
    have he1 : ((l.map ItemD.dat).drop k).take 1 = [l[k]].map ItemD.dat := by rw [List.drop_eq_getElem_cons (by simpa using hk2)]; simp
    have r0 : gcell G b (o + k * 11 + 0) = some (vi l[k].kind) := hrow 0 _ rfl; refine c_skip ?_; refine hK5 _ _ ?_; clear hK5; refine c_seq (fun _ hK7 => ?_); refine c_block ?_; refine c_seqR (fun _ hK8 => ?_); refine s_assign H wn rfl rfl ?_; clear H; intro a H; refine hK8 _ _ ?_; clear hK8; refine c_seq (fun _ hK9 => ?_); refine c_seqR (fun _ hK10 => ?_); (iterate 2 refine s_move H wn rfl rfl ?_; clear H; intro a H); refine s_index un32run ty35run _ H wn rfl rfl rfl (by first | assumption | omega) rfl ?_; clear H; intro a H; refine s_field fd35_0run H wn rfl rfl ?_; clear H; intro a H; refine s_load ty3run H wn rfl (H.hp.gcell (by assumption)) rfl ?_; clear H; intro a H; refine s_cmp H wn rfl rfl rfl rfl ?_; clear H; intro a H; refine hK10 _ _ ?_; clear hK10; refine c_cond H rfl ?_ ?_
    · intro h18
      try have p18 := of_decide_eq_true h18
      refine c_region ?_; (iterate 3 refine s_move H wn rfl rfl ?_; clear H; intro a H); refine s_add _ H wn rfl rfl rfl (by omega) (by omega) rfl ?_; clear H; intro a H; refine s_slice un32run ty35run k (k + 1) H wn rfl rfl rfl rfl (by omega) (by omega) (by omega) rfl ?_; clear H; intro a H; rw [if_neg hc3, Option.map_some, add_lit, Nat.add_sub_cancel_left] at H; refine s_call en8par H wn rfl (len_spec _ _ H.hp.ro [l[k]] _ (by have h := hv.part k (k + 1) (by omega) (by rw [List.length_map]; omega); rw [if_neg hc3, Option.map_some, add_lit, Nat.add_sub_cancel_left, he1] at h; exact h) (by have := szRs_get (rows := l.map ItemD.dat) (k := k) (r := l[k].dat) (by simp [hk2]); simp only [zItems, List.map_cons, List.map_nil, szRs] at *; omega)) rfl ?_; clear H; rintro v25 _ a w ⟨rfl, rfl⟩ - H; rw [lenS_one] at H; refine s_move H wn rfl rfl ?_; clear H; intro a H; (iterate 2 refine s_extract H wn rfl rfl rfl ?_; clear H; intro a H); refine s_assign H wn rfl rfl ?_; clear H; intro a H; refine wl_nil ?_; refine hK9 _ _ ?_; clear hK9; refine c_seqR (fun _ hK11 => ?_); refine s_assign H wn rfl rfl ?_; clear H; intro a H; refine hK11 _ _ ?_; clear hK11; refine c_block ?_; skip; refine c_loopS (ι := Nat × Value × List Value × OL) (Tc := [(0, _), (4, _), (5, _)]) (Lc := []) (fun (gh : Nat × Value × List Value × OL) => [(3, gh.2.1), (6, vi gh.1)]) (fun (gh : Nat × Value × List Value × OL) => [] ++ gh.2.2.2) (fun (gh : Nat × Value × List Value × OL) => G) (fun (gh : Nat × Value × List Value × OL) => gh.1 ≤ n1 l[k] ∧ IsRow 3 1 gh.2.1 ((kindsS (l.take k)).length + gh.1) gh.2.2.1 gh.2.2.2 ∧ RepCat G 1 ((kindsS (l.take k) ++ List.replicate gh.1 l[k].kind).map intDat) gh.2.2.1) (fun (gh : Nat × Value × List Value × OL) => n1 l[k] - gh.1) ((0, v, xs, Lo)) (by exact (H).sub ⟨rfl, rfl, rfl, rfl, rfl, trivial⟩) ?_ ?_
      · exact ⟨by omega, hrw, by simpa using hcat⟩
      clear H; intro gh a w hI H; obtain ⟨j, v2, xs2, Lo2⟩ := gh; dsimp only at hI H; obtain ⟨hj, hrw2, hcat2⟩ := hI; dsimp only [List.cons_append, List.nil_append, List.append_nil] at H; refine c_seq (fun _ hK12 => ?_); refine c_seqR (fun _ hK13 => ?_); (iterate 2 refine s_move H wn rfl rfl ?_; clear H; intro a H); refine s_cmp H wn rfl rfl rfl rfl ?_; clear H; intro a H; refine hK13 _ _ ?_; clear hK13; refine c_cond H rfl ?_ ?_
      · intro h30
        try have p30 := of_decide_eq_true h30
        have hj2 : j < n1 l[k] := by omega
        refine c_skip ?_; refine hK12 _ _ ?_; clear hK12; refine c_seq (fun _ hK14 => ?_); refine c_block ?_; refine c_region ?_; (iterate 3 refine s_move H wn rfl rfl ?_; clear H; intro a H); refine s_index un32run ty35run _ H wn rfl rfl rfl (by first | assumption | omega) rfl ?_; clear H; intro a H; refine s_field fd35_0run H wn rfl rfl ?_; clear H; intro a H; refine s_load ty3run H wn rfl (H.hp.gcell (by assumption)) rfl ?_; clear H; intro a H; refine s_buildSlice un38l14c ty3run [_] [_] H wn rfl rfl rfl rfl rfl (by intro i q h; match i, h with | 0, h => exact h | n + 1, h => simp at h) rfl rfl ?_; clear H; intro b39 a w hb39 H; refine s_append (Li := [_]) (Lo := Lo2) (news := [vi l[k].kind]) un38l14c ty3run rfl rfl H wn rfl rfl hrw2 rfl (H.hp.ocells 0 rfl rfl) rfl (by omega) (by omega) rfl ?_; clear H; intro v40 Lo40 a w hrw40 H; refine s_assign H wn rfl rfl ?_; clear H; intro a H; refine wl_nil ?_; refine hK14 _ _ ?_; clear hK14; refine c_region ?_; refine s_move H wn rfl rfl ?_; clear H; intro a H; refine s_add _ H wn rfl rfl rfl (by omega) (by omega) rfl ?_; clear H; intro a H; refine s_assign H wn rfl rfl ?_; clear H; intro a H; refine wl_nil ?_; refine loop_end ((j + 1, v40, xs2 ++ [vi l[k].kind], Lo40)) (by exact (H.pickT (Pl := [_]) (Pl' := []) [] (by decide) rfl).sub ⟨rfl, rfl, rfl, rfl, rfl, trivial⟩) ?_ ?_
        · (try dsimp only); exact ⟨by omega, hrw40, by rw [List.replicate_succ', ← List.append_assoc, List.map_append]; exact hcat2.snoc (int_row _ _) rfl⟩
        first | omega | (dsimp only; omega)
      intro h30
      try have p30 := of_decide_eq_false h30
      have hj2 : j = n1 l[k] := by omega
      subst hj2; rw [show (kindsS (l.take k)).length + n1 l[k] = (kindsS (l.take (k + 1))).length by rw [hks0]; simp, ← hks0] at *; have hks : kindsS (l.take (k + 1)) = kindsS (l.take (k + 1)) := rfl; refine c_exit ?_; refine hK7 _ _ ?_; clear hK7; refine c_region ?_; refine s_move H wn rfl rfl ?_; clear H; intro a H; refine s_add _ H wn rfl rfl rfl (by omega) (by omega) rfl ?_; clear H; intro a H; refine s_assign H wn rfl rfl ?_; clear H; intro a H; refine wl_nil ?_; refine loop_end ((k + 1, v2, xs2, Lo2)) (by exact (H).sub ⟨rfl, rfl, rfl, trivial⟩) ?_ ?_
      · (try dsimp only); exact ⟨by omega, by rw [hks]; exact hrw2, by rw [hks]; exact hcat2⟩
      first | omega | (dsimp only; omega)
    intro h18
    try have p18 := of_decide_eq_false h18
    have hnn := n1_not (x := l[k]) p18; refine c_skip ?_; refine hK9 _ _ ?_; clear hK9; refine c_seqR (fun _ hK15 => ?_); refine s_assign H wn rfl rfl ?_; clear H; intro a H; refine hK15 _ _ ?_; clear hK15; refine c_block ?_; skip; refine c_loopS (ι := Nat × Value × List Value × OL) (Tc := [(0, _), (4, _), (5, _)]) (Lc := []) (fun (gh : Nat × Value × List Value × OL) => [(3, gh.2.1), (6, vi gh.1)]) (fun (gh : Nat × Value × List Value × OL) => [] ++ gh.2.2.2) (fun (gh : Nat × Value × List Value × OL) => G) (fun (gh : Nat × Value × List Value × OL) => gh.1 ≤ n1 l[k] ∧ IsRow 3 1 gh.2.1 ((kindsS (l.take k)).length + gh.1) gh.2.2.1 gh.2.2.2 ∧ RepCat G 1 ((kindsS (l.take k) ++ List.replicate gh.1 l[k].kind).map intDat) gh.2.2.1) (fun (gh : Nat × Value × List Value × OL) => n1 l[k] - gh.1) ((0, v, xs, Lo)) (by exact (H).sub ⟨rfl, rfl, rfl, rfl, rfl, trivial⟩) ?_ ?_
    · exact ⟨by omega, hrw, by simpa using hcat⟩
    clear H; intro gh a w hI H; obtain ⟨j, v2, xs2, Lo2⟩ := gh; dsimp only at hI H; obtain ⟨hj, hrw2, hcat2⟩ := hI; dsimp only [List.cons_append, List.nil_append, List.append_nil] at H; refine c_seq (fun _ hK16 => ?_); refine c_seqR (fun _ hK17 => ?_); (iterate 2 refine s_move H wn rfl rfl ?_; clear H; intro a H); refine s_cmp H wn rfl rfl rfl rfl ?_; clear H; intro a H; refine hK17 _ _ ?_; clear hK17; refine c_cond H rfl ?_ ?_
    · intro h30
      try have p30 := of_decide_eq_true h30
      have hj2 : j < n1 l[k] := by omega
      refine c_skip ?_; refine hK16 _ _ ?_; clear hK16; refine c_seq (fun _ hK18 => ?_); refine c_block ?_; refine c_region ?_; (iterate 3 refine s_move H wn rfl rfl ?_; clear H; intro a H); refine s_index un32run ty35run _ H wn rfl rfl rfl (by first | assumption | omega) rfl ?_; clear H; intro a H; refine s_field fd35_0run H wn rfl rfl ?_; clear H; intro a H; refine s_load ty3run H wn rfl (H.hp.gcell (by assumption)) rfl ?_; clear H; intro a H; refine s_buildSlice un38l14c ty3run [_] [_] H wn rfl rfl rfl rfl rfl (by intro i q h; match i, h with | 0, h => exact h | n + 1, h => simp at h) rfl rfl ?_; clear H; intro b39 a w hb39 H; refine s_append (Li := [_]) (Lo := Lo2) (news := [vi l[k].kind]) un38l14c ty3run rfl rfl H wn rfl rfl hrw2 rfl (H.hp.ocells 0 rfl rfl) rfl (by omega) (by omega) rfl ?_; clear H; intro v40 Lo40 a w hrw40 H; refine s_assign H wn rfl rfl ?_; clear H; intro a H; refine wl_nil ?_; refine hK18 _ _ ?_; clear hK18; refine c_region ?_; refine s_move H wn rfl rfl ?_; clear H; intro a H; refine s_add _ H wn rfl rfl rfl (by omega) (by omega) rfl ?_; clear H; intro a H; refine s_assign H wn rfl rfl ?_; clear H; intro a H; refine wl_nil ?_; refine loop_end ((j + 1, v40, xs2 ++ [vi l[k].kind], Lo40)) (by exact (H.pickT (Pl := [_]) (Pl' := []) [] (by decide) rfl).sub ⟨rfl, rfl, rfl, rfl, rfl, trivial⟩) ?_ ?_
      · (try dsimp only); exact ⟨by omega, hrw40, by rw [List.replicate_succ', ← List.append_assoc, List.map_append]; exact hcat2.snoc (int_row _ _) rfl⟩
      first | omega | (dsimp only; omega)
    intro h30
    try have p30 := of_decide_eq_false h30
    have hj2 : j = n1 l[k] := by omega
    subst hj2; rw [show (kindsS (l.take k)).length + n1 l[k] = (kindsS (l.take (k + 1))).length by rw [hks0]; simp, ← hks0] at *; have hks : kindsS (l.take (k + 1)) = kindsS (l.take (k + 1)) := rfl; refine c_exit ?_; refine hK7 _ _ ?_; clear hK7; refine c_region ?_; refine s_move H wn rfl rfl ?_; clear H; intro a H; refine s_add _ H wn rfl rfl rfl (by omega) (by omega) rfl ?_; clear H; intro a H; refine s_assign H wn rfl rfl ?_; clear H; intro a H; refine wl_nil ?_; refine loop_end ((k + 1, v2, xs2, Lo2)) (by exact (H).sub ⟨rfl, rfl, rfl, trivial⟩) ?_ ?_
    · (try dsimp only); exact ⟨by omega, by rw [hks]; exact hrw2, by rw [hks]; exact hcat2⟩
    first | omega | (dsimp only; omega)
  intro h10
  try have p10 := of_decide_eq_false h10
  refine c_exit ?_; refine hK3 _ _ ?_; clear hK3; refine c_seq (fun _ hK19 => ?_); obtain ⟨G', hm, hrep, H⟩ := H.giveRow (Li := []) hrw (rows := (kindsS (l.take k)).map intDat) (by simp) hcat; rw [show l.take k = l from List.take_of_length_le (by omega)] at hrep; refine c_region ?_; refine s_move H wn rfl rfl ?_; clear H; intro a H; refine s_assign H wn rfl rfl ?_; clear H; intro a H; refine wl_nil ?_; refine hK19 _ _ ?_; clear hK19; refine c_ret ?_; refine (leave1 H Tryz.results100 (.cons (rv_tmp H rfl) .nil) ?_).1; exact H.hp.ret hrep
end
section
open Go.RowKit
theorem en100l14d : ∀ args w, (callFunc 100 args).run Tryz.prog w = .ok (.enter 100 args) w := enters Tryz.func100 rfl (by kernel_rfl)
def tailM (fr at_ : Nat) (so : Bool) : List BlkD := if fr < at_ then [⟨if so then 1 else 4, fr, at_, false⟩] else []
/-- The blocks that the model finds from a unit on. -/
def mdl : Nat → Nat → Bool → List Int → List BlkD
  | fr, at_, so, [] => tailM fr at_ so
  | fr, at_, so, k :: ks =>
    if k = 2 then ⟨1, fr, at_ + 1, true⟩ :: mdl (at_ + 1) (at_ + 1) false ks
    else if k = 7 ∨ k = 3 then tailM fr at_ so ++ ⟨if k = 3 then 3 else 2, at_, at_ + 1, false⟩ :: mdl (at_ + 1) (at_ + 1) false ks
    else mdl fr (at_ + 1) (so || decide (¬ k = 8)) ks
theorem tailM_len (fr at_ : Nat) (so : Bool) : (tailM fr at_ so).length ≤ 1 := by unfold tailM; split <;> simp
theorem mdl_len : ∀ (ks : List Int) (fr at_ : Nat) (so : Bool), (mdl fr at_ so ks).length ≤ 2 * ks.length + 1
  | [], fr, at_, so => by rw [mdl]; exact tailM_len _ _ _
  | k :: ks, fr, at_, so => by
    have h := tailM_len fr at_ so; rw [mdl]
    split
    · have := mdl_len ks (at_ + 1) (at_ + 1) false; simp only [List.length_cons]; omega
    split
    · have := mdl_len ks (at_ + 1) (at_ + 1) false; simp only [List.length_append, List.length_cons]; omega
    have := mdl_len ks fr (at_ + 1) (so || decide (¬ k = 8)); simp only [List.length_cons]; omega
/-- What is left at a unit. -/
def restM (ks : List Int) (at_ fr : Nat) (so : Bool) : List BlkD := if at_ ≤ ks.length then mdl fr at_ so (ks.drop at_) else []
theorem restM_cons {ks : List Int} {at_ : Nat} (h : at_ < ks.length) (fr : Nat) (so : Bool) : restM ks at_ fr so = if ks[at_] = 2 then ⟨1, fr, at_ + 1, true⟩ :: restM ks (at_ + 1) (at_ + 1) false
    else if ks[at_] = 7 ∨ ks[at_] = 3 then tailM fr at_ so ++ ⟨if ks[at_] = 3 then 3 else 2, at_, at_ + 1, false⟩ :: restM ks (at_ + 1) (at_ + 1) false
    else restM ks (at_ + 1) fr (so || decide (¬ ks[at_] = 8)) := by
  have e0 : restM ks at_ fr so = mdl fr at_ so (ks.drop at_) := if_pos (by omega); have e1 : ∀ f s, restM ks (at_ + 1) f s = mdl f (at_ + 1) s (ks.drop (at_ + 1)) := fun f s => if_pos (by omega)
  simp only [e0, e1]
  rw [List.drop_eq_getElem_cons h, mdl]
theorem restM_end {ks : List Int} {n : Nat} (h : n = ks.length) (fr : Nat) (so : Bool) : restM ks n fr so = tailM fr n so := by
  subst h; rw [restM, if_pos (Nat.le_refl _), List.drop_length, mdl]
theorem restM_off {ks : List Int} {at_ : Nat} (h : ks.length < at_) (fr : Nat) (so : Bool) : restM ks at_ fr so = [] := by rw [restM, if_neg (by omega)]
theorem tailM_no {fr at_ : Nat} (h : ¬ fr < at_) (so : Bool) : tailM fr at_ so = [] := by rw [tailM, if_neg h]
theorem tailM_t {fr at_ : Nat} (h : fr < at_) : tailM fr at_ true = [⟨1, fr, at_, false⟩] := by rw [tailM, if_pos h]; rfl
theorem tailM_f {fr at_ : Nat} (h : fr < at_) : tailM fr at_ false = [⟨4, fr, at_, false⟩] := by rw [tailM, if_pos h]; rfl
theorem bstep {e : TypeId} {v : Value} {Lo : OL} {g : GH} {A R M : List BlkD} {xs : List Value} (b : BlkD) (hrw : IsRow e 4 v (A.length + 1) (xs ++ bkCells b) Lo) (hcat : RepCat g 4 (A.map bkDat) xs) (heq : A ++ (b :: R) = M) :
    ∃ A' xs', IsRow e 4 v A'.length xs' Lo ∧ RepCat g 4 (A'.map bkDat) xs' ∧ A' ++ R = M :=
  ⟨A ++ [b], _, by rw [List.length_append]; exact hrw, by rw [List.map_append]; exact hcat.snoc (bk_row _ _) rfl, by simpa using heq⟩
set_option maxHeartbeats 4000000 in
theorem blocks14_spec (G : GH) (w0 : World) (hG : Hold G w0) (l : List ItemD) (v : Value) (hv : RepV G (.sl 11 (l.map ItemD.dat)) v) (hz : zItems l ≤ 1073741824) :
    Calls Tryz.prog 41 #[v] w0 (Ret w0 G fun u G' => RepV G' (.sl 4 ((mdl 0 0 false (kindsS l)).map bkDat)) u) := by
  have hml : 4294967297 ≤ maxLen := by decide
  have hkl := kindsS_len l; have hdl := mdl_len (kindsS l) 0 0 false; obtain ⟨ks, hks⟩ : ∃ ks, ks = kindsS l := ⟨_, rfl⟩; rw [← hks] at hkl hdl ⊢; refine enter (N := 108) (T := [(0, _)]) (F := fun k => k < w0.heap.size) (L := []) Tryz.func41 rfl Tryz.ntmps41 rfl rfl hG (fun _ h => h) (fun _ h => by cases h) (fun _ h => by cases h) (fun _ h => by cases h) List.Pairwise.nil ?_; intro a H; refine c_seqR (fun _ hK1 => ?_); refine s_assign H wn rfl rfl ?_; clear H; intro a H; refine hK1 _ _ ?_; clear hK1; refine c_seqR (fun _ hK2 => ?_); refine s_assign H wn rfl rfl ?_; clear H; intro a H; refine hK2 _ _ ?_; clear hK2; refine c_seqR (fun _ hK3 => ?_); refine s_move H wn rfl rfl ?_; clear H; intro a H; refine s_call en100l14d H wn rfl (kinds_spec _ _ H.hp.ro l v hv hz) rfl ?_; clear H; rintro v10 G10 a w hk10 hm10 H; rw [← hks] at hk10; obtain ⟨kA, kc, rfl, hkc1, hkc2, hkg⟩ := hk10.slice; rw [List.length_map] at *; refine s_assign H wn rfl rfl ?_; clear H; intro a H; refine hK3 _ _ ?_; clear hK3; refine c_seqR (fun _ hK4 => ?_); (iterate 2 refine s_assign H wn rfl rfl ?_; clear H; intro a H); refine hK4 _ _ ?_; clear hK4; refine c_seq (fun _ hK5 => ?_); refine c_seqR (fun _ hK6 => ?_); refine s_assign H wn rfl rfl ?_; clear H; intro a H; refine hK6 _ _ ?_; clear hK6; refine c_block ?_; skip; refine c_loopS (ι := Nat × Nat × Bool × List BlkD × Value × List Value × OL) (Tc := [(4, _)]) (Lc := []) (fun (gh : Nat × Nat × Bool × List BlkD × Value × List Value × OL) => [(3, gh.2.2.2.2.1), (5, vi gh.2.1), (6, .bool gh.2.2.1), (7, vi gh.1)]) (fun (gh : Nat × Nat × Bool × List BlkD × Value × List Value × OL) => [] ++ gh.2.2.2.2.2.2) (fun (gh : Nat × Nat × Bool × List BlkD × Value × List Value × OL) => G10) (fun (gh : Nat × Nat × Bool × List BlkD × Value × List Value × OL) => gh.1 ≤ ks.length + 1 ∧ gh.2.1 ≤ gh.1 ∧ IsRow 91 4 gh.2.2.2.2.1 gh.2.2.2.1.length gh.2.2.2.2.2.1 gh.2.2.2.2.2.2 ∧ RepCat G10 4 (gh.2.2.2.1.map bkDat) gh.2.2.2.2.2.1 ∧ gh.2.2.2.1 ++ restM ks gh.1 gh.2.1 gh.2.2.1 = mdl 0 0 false ks) (fun (gh : Nat × Nat × Bool × List BlkD × Value × List Value × OL) => ks.length + 1 - gh.1) ((0, 0, false, [], .slice none 0 0, [], [])) (by exact (H).sub ⟨rfl, rfl, rfl, rfl, rfl, trivial⟩) ?_ ?_
  · exact ⟨by omega, Nat.le_refl _, IsRow.nil, RepCat.nil, by rw [restM, if_pos (by omega)]; rfl⟩
  clear H; intro gh a w hI H; obtain ⟨n, fr, so, A, v, xs, Lo⟩ := gh; dsimp only at hI H; obtain ⟨ht, hfr, hrw, hcat, heq⟩ := hI
  have hal : A.length ≤ 2147483649 := by have := congrArg List.length heq; rw [List.length_append] at this; omega
  dsimp only [List.cons_append, List.nil_append, List.append_nil] at H; refine c_seq (fun _ hK7 => ?_); refine c_seqR (fun _ hK8 => ?_); (iterate 2 refine s_move H wn rfl rfl ?_; clear H; intro a H); refine s_len un38l14c H wn rfl rfl ?_; clear H; intro a H; refine s_cmp H wn rfl rfl rfl rfl ?_; clear H; intro a H; refine hK8 _ _ ?_; clear hK8; refine c_cond H rfl ?_ ?_
  · intro h14
    try have p14 := of_decide_eq_true h14
    first
    | (exfalso; omega)
    | (exact absurd h14 (by decide))
    | skip
      refine c_skip ?_; refine hK7 _ _ ?_; clear hK7; refine c_seq (fun _ hK9 => ?_); refine c_block ?_; refine c_seq (fun _ hK10 => ?_); refine c_seqR (fun _ hK11 => ?_); (iterate 2 refine s_move H wn rfl rfl ?_; clear H; intro a H); refine s_len un38l14c H wn rfl rfl ?_; clear H; intro a H; refine s_cmp H wn rfl rfl rfl rfl ?_; clear H; intro a H; refine s_move H wn rfl rfl ?_; clear H; intro a H; refine s_split H 21 rfl ?_ ?_
      · intro h21
        try have p21 := of_decide_eq_true h21
        first
        | (exfalso; omega)
        | (exact absurd h21 (by decide))
        | skip
          have ht2 : n < ks.length := by omega
          obtain ⟨kb, ko, kcs, rfl, -, hkrow, hkr⟩ := hkg n (intDat ks[n]) (by simp [ht2]); obtain rfl := int_of hkr; have r0 : gcell G10 kb (ko + n * 1) = some (vi ks[n]) := hkrow 0 _ rfl; rw [restM_cons ht2] at heq; (iterate 2 refine s_move H (wg H rfl rfl h21) rfl rfl ?_; clear H; intro a H); refine s_index un38l14c ty3run _ H (wg H rfl rfl h21) rfl rfl rfl (by first | assumption | omega) rfl ?_; clear H; intro a H; refine s_load ty3run H (wg H rfl rfl h21) rfl (H.hp.gcell (by assumption)) rfl ?_; clear H; intro a H; refine s_cmp H (wg H rfl rfl h21) rfl rfl rfl rfl ?_; clear H; intro a H; refine s_pick_t H wn rfl h21 rfl rfl ?_; clear H; intro a H; refine hK11 _ _ ?_; clear hK11; refine c_cond H rfl ?_ ?_
          · intro h27
            try have p27 := of_decide_eq_true h27
            first
            | (exfalso; omega)
            | (exact absurd h27 (by decide))
            | skip
              rw [if_pos p27] at heq; refine c_seqR (fun _ hK12 => ?_); (iterate 3 refine s_move H wn rfl rfl ?_; clear H; intro a H); refine s_add _ H wn rfl rfl rfl (by omega) (by omega) rfl ?_; clear H; intro a H; refine s_build sr91par [_, _, _, _] H wn rfl rfl rfl rfl ?_; clear H; intro a H; refine s_buildSlice un84pas ty91par [_, _, _, _] [_, _, _, _] H wn rfl rfl rfl rfl rfl (by intro i q h; match i, h with | 0, h => exact h | n + 1, h => simp at h) rfl rfl ?_; clear H; intro b33 a w hb33 H; refine s_append (Li := [_]) (Lo := Lo) (news := bkCells ⟨1, fr, n + 1, true⟩) un84pas ty91par rfl rfl H wn rfl rfl hrw rfl (H.hp.ocells 0 rfl rfl) rfl (by omega) (by omega) rfl ?_; clear H; intro v Lo a w hrwn H; obtain ⟨A, xs, hrw, hcat, heq⟩ := bstep _ hrwn hcat heq; refine s_assign H wn rfl rfl ?_; clear H; intro a H; refine hK12 _ _ ?_; clear hK12; refine c_seqR (fun _ hK13 => ?_); refine s_move H wn rfl rfl ?_; clear H; intro a H; refine s_add _ H wn rfl rfl rfl (by omega) (by omega) rfl ?_; clear H; intro a H; (iterate 2 refine s_assign H wn rfl rfl ?_; clear H; intro a H); refine hK13 _ _ ?_; clear hK13; refine c_exit ?_; refine hK9 _ _ ?_; clear hK9; refine c_region ?_; refine s_move H wn rfl rfl ?_; clear H; intro a H; refine s_add _ H wn rfl rfl rfl (by omega) (by omega) rfl ?_; clear H; intro a H; refine s_assign H wn rfl rfl ?_; clear H; intro a H; refine wl_nil ?_; refine loop_end ((n + 1, n + 1, false, A, v, xs, Lo)) (by exact (H.pickT (Pl := [_]) (Pl' := []) [] (by decide) rfl).sub ⟨rfl, rfl, rfl, rfl, rfl, trivial⟩) ?_ ?_
              · try dsimp only
                first
                | exact ⟨by omega, by omega, hrw, hcat, heq⟩
                | exact ⟨by omega, by omega, hrw, hcat, by rw [restM_off (by omega)]; exact heq⟩
              first | omega | (dsimp only; omega)
          intro h27
          try have p27 := of_decide_eq_false h27
          first
          | (exfalso; omega)
          | (exact absurd h27 (by decide))
          | skip
            rw [if_neg p27] at heq; refine c_skip ?_; refine hK10 _ _ ?_; clear hK10; refine c_seq (fun _ hK14 => ?_); refine c_seqR (fun _ hK15 => ?_); (iterate 2 refine s_move H wn rfl rfl ?_; clear H; intro a H); refine s_len un38l14c H wn rfl rfl ?_; clear H; intro a H; refine s_cmp H wn rfl rfl rfl rfl ?_; clear H; intro a H; refine s_move H wn rfl rfl ?_; clear H; intro a H; (iterate 2 refine s_move H (wg H rfl rfl h21) rfl rfl ?_; clear H; intro a H); refine s_index un38l14c ty3run _ H (wg H rfl rfl h21) rfl rfl rfl (by first | assumption | omega) rfl ?_; clear H; intro a H; refine s_load ty3run H (wg H rfl rfl h21) rfl (H.hp.gcell (by assumption)) rfl ?_; clear H; intro a H; refine s_cmp H (wg H rfl rfl h21) rfl rfl rfl rfl ?_; clear H; intro a H; refine s_pick_t H wn rfl h21 rfl rfl ?_; clear H; intro a H; refine s_move H wn rfl rfl ?_; clear H; intro a H; refine s_split H 48 rfl ?_ ?_
            · intro h48
              try have p48 := of_decide_eq_true h48
              first
              | (exfalso; omega)
              | (exact absurd h48 (by decide))
              | skip
                (iterate 2 refine s_move H (wg H rfl rfl h48) rfl rfl ?_; clear H; intro a H); refine s_index un38l14c ty3run _ H (wg H rfl rfl h48) rfl rfl rfl (by first | assumption | omega) rfl ?_; clear H; intro a H; refine s_load ty3run H (wg H rfl rfl h48) rfl (H.hp.gcell (by assumption)) rfl ?_; clear H; intro a H; refine s_cmp H (wg H rfl rfl h48) rfl rfl rfl rfl ?_; clear H; intro a H; refine s_pick_t H wn rfl h48 rfl rfl ?_; clear H; intro a H; refine hK15 _ _ ?_; clear hK15; refine c_cond H rfl ?_ ?_
                · intro h54
                  try have p54 := of_decide_eq_true h54
                  first
                  | (exfalso; omega)
                  | (exact absurd h54 (by decide))
                  | skip
                    rw [if_neg (fun h => h.elim p48 p54)] at heq; refine c_seqR (fun _ hK16 => ?_); (iterate 2 refine s_move H wn rfl rfl ?_; clear H; intro a H); refine s_split H 56 rfl ?_ ?_
                    · intro h56
                      try have p56 := of_decide_eq_true h56
                      first
                      | (exfalso; omega)
                      | (exact absurd h56 (by decide))
                      | skip
                        rw [h56, Bool.true_or] at heq; (iterate 5 refine s_skip H rfl rfl h56 rfl ?_; clear H; intro a H); refine s_pick_t H wn rfl h56 rfl rfl ?_; clear H; intro a H; refine s_assign H wn rfl rfl ?_; clear H; intro a H; refine hK16 _ _ ?_; clear hK16; refine c_exit ?_; refine hK9 _ _ ?_; clear hK9; refine c_region ?_; refine s_move H wn rfl rfl ?_; clear H; intro a H; refine s_add _ H wn rfl rfl rfl (by omega) (by omega) rfl ?_; clear H; intro a H; refine s_assign H wn rfl rfl ?_; clear H; intro a H; refine wl_nil ?_; refine loop_end ((n + 1, fr, true, A, v, xs, Lo)) (by exact (H).sub ⟨rfl, rfl, rfl, rfl, rfl, trivial⟩) ?_ ?_
                        · (try dsimp only); exact ⟨by omega, by omega, hrw, hcat, heq⟩
                        first | omega | (dsimp only; omega)
                    intro h56
                    try have p56 := of_decide_eq_false h56
                    first
                    | (exfalso; omega)
                    | (exact absurd h56 (by decide))
                    | skip
                      rw [h56, Bool.false_or] at heq; (iterate 2 refine s_move H (wg H rfl rfl h56) rfl rfl ?_; clear H; intro a H); refine s_index un38l14c ty3run _ H (wg H rfl rfl h56) rfl rfl rfl (by first | assumption | omega) rfl ?_; clear H; intro a H; refine s_load ty3run H (wg H rfl rfl h56) rfl (H.hp.gcell (by assumption)) rfl ?_; clear H; intro a H; refine s_cmp H (wg H rfl rfl h56) rfl rfl rfl rfl ?_; clear H; intro a H; refine s_pick_f H wn rfl h56 rfl rfl ?_; clear H; intro a H; refine s_assign H wn rfl rfl ?_; clear H; intro a H; refine hK16 _ _ ?_; clear hK16; refine c_exit ?_; refine hK9 _ _ ?_; clear hK9; refine c_region ?_; refine s_move H wn rfl rfl ?_; clear H; intro a H; refine s_add _ H wn rfl rfl rfl (by omega) (by omega) rfl ?_; clear H; intro a H; refine s_assign H wn rfl rfl ?_; clear H; intro a H; refine wl_nil ?_; refine loop_end ((n + 1, fr, decide (¬ ks[n] = 8), A, v, xs, Lo)) (by exact (H).sub ⟨rfl, rfl, rfl, rfl, rfl, trivial⟩) ?_ ?_
                      · (try dsimp only); exact ⟨by omega, by omega, hrw, hcat, heq⟩
                      first | omega | (dsimp only; omega)
                intro h54
                try have p54 := of_decide_eq_false h54
                first
                | (exfalso; omega)
                | (exact absurd h54 (by decide))
                | skip
                  rw [if_pos (.inr (Decidable.not_not.1 p54))] at heq; refine c_skip ?_; refine hK14 _ _ ?_; clear hK14; refine c_seq (fun _ hK17 => ?_); refine c_seqR (fun _ hK18 => ?_); (iterate 2 refine s_move H wn rfl rfl ?_; clear H; intro a H); refine s_cmp H wn rfl rfl rfl rfl ?_; clear H; intro a H; refine s_move H wn rfl rfl ?_; clear H; intro a H; refine s_split H 66 rfl ?_ ?_
                  · intro h66
                    try have p66 := of_decide_eq_true h66
                    first
                    | (exfalso; omega)
                    | (exact absurd h66 (by decide))
                    | skip
                      refine s_move H (wg H rfl rfl h66) rfl rfl ?_; clear H; intro a H; refine s_pick_t H wn rfl h66 rfl rfl ?_; clear H; intro a H; refine hK18 _ _ ?_; clear hK18; refine c_cond H rfl ?_ ?_
                      · intro h68
                        try have p68 := of_decide_eq_true h68
                        first
                        | (exfalso; omega)
                        | (exact absurd h68 (by decide))
                        | skip
                          subst h68; rw [tailM_t (by omega)] at heq; refine c_region ?_; (iterate 3 refine s_move H wn rfl rfl ?_; clear H; intro a H); refine s_build sr91par [_, _, _, _] H wn rfl rfl rfl rfl ?_; clear H; intro a H; refine s_buildSlice un84pas ty91par [_, _, _, _] [_, _, _, _] H wn rfl rfl rfl rfl rfl (by intro i q h; match i, h with | 0, h => exact h | n + 1, h => simp at h) rfl rfl ?_; clear H; intro b73 a w hb73 H; refine s_append (Li := [_]) (Lo := Lo) (news := bkCells ⟨1, fr, n, false⟩) un84pas ty91par rfl rfl H wn rfl rfl hrw rfl (H.hp.ocells 0 rfl rfl) rfl (by omega) (by omega) rfl ?_; clear H; intro v Lo a w hrwn H; obtain ⟨A, xs, hrw, hcat, heq⟩ := bstep _ hrwn hcat heq
                          have hal : A.length ≤ 2147483649 := by have := congrArg List.length heq; rw [List.length_append] at this; omega
                          refine s_assign H wn rfl rfl ?_; clear H; intro a H; refine wl_nil ?_; refine hK17 _ _ ?_; clear hK17; refine c_seq (fun _ hK19 => ?_); refine c_seqR (fun _ hK20 => ?_); (iterate 2 refine s_move H wn rfl rfl ?_; clear H; intro a H); refine s_cmp H wn rfl rfl rfl rfl ?_; clear H; intro a H; refine s_move H wn rfl rfl ?_; clear H; intro a H; refine s_move H (wg H rfl rfl h66) rfl rfl ?_; clear H; intro a H; refine s_not H (wg H rfl rfl h66) rfl rfl ?_; clear H; intro a H; refine s_pick_t H wn rfl h66 rfl rfl ?_; clear H; intro a H; refine hK20 _ _ ?_; clear hK20; refine c_cond_f H rfl rfl ?_; refine c_skip ?_; refine hK19 _ _ ?_; clear hK19; refine c_seq (fun _ hK21 => ?_); refine c_seqR (fun _ hK22 => ?_); (iterate 2 refine s_move H wn rfl rfl ?_; clear H; intro a H); refine s_len un38l14c H wn rfl rfl ?_; clear H; intro a H; refine s_cmp H wn rfl rfl rfl rfl ?_; clear H; intro a H; refine hK22 _ _ ?_; clear hK22; refine c_cond_t H rfl h21 ?_; refine c_seqR (fun _ hK23 => ?_); refine s_assign H wn rfl rfl ?_; clear H; intro a H; refine hK23 _ _ ?_; clear hK23; refine c_seq (fun _ hK24 => ?_); refine c_seqR (fun _ hK25 => ?_); (iterate 2 refine s_move H wn rfl rfl ?_; clear H; intro a H); refine s_index un38l14c ty3run _ H wn rfl rfl rfl (by first | assumption | omega) rfl ?_; clear H; intro a H; refine s_load ty3run H wn rfl (H.hp.gcell (by assumption)) rfl ?_; clear H; intro a H; refine s_cmp H wn rfl rfl rfl rfl ?_; clear H; intro a H; refine hK25 _ _ ?_; clear hK25; refine c_cond H rfl ?_ ?_
                          · intro h96
                            try have p96 := of_decide_eq_true h96
                            first
                            | (exfalso; omega)
                            | (exact absurd h96 (by decide))
                            | skip
                              rw [if_pos p96] at heq; refine c_region ?_; refine s_assign H wn rfl rfl ?_; clear H; intro a H; refine wl_nil ?_; refine hK24 _ _ ?_; clear hK24; refine c_region ?_; (iterate 4 refine s_move H wn rfl rfl ?_; clear H; intro a H); refine s_add _ H wn rfl rfl rfl (by omega) (by omega) rfl ?_; clear H; intro a H; refine s_build sr91par [_, _, _, _] H wn rfl rfl rfl rfl ?_; clear H; intro a H; refine s_buildSlice un84pas ty91par [_, _, _, _] [_, _, _, _] H wn rfl rfl rfl rfl rfl (by intro i q h; match i, h with | 0, h => exact h | n + 1, h => simp at h) rfl rfl ?_; clear H; intro b103 a w hb103 H
                              first
                                | refine s_append (Li := [_]) (Lo := Lo) (news := bkCells ⟨_, n, n + 1, false⟩) un84pas ty91par rfl rfl H wn rfl rfl hrw rfl (H.hp.ocells 0 rfl rfl) rfl (by omega) (by omega) rfl ?_
                                | refine s_append (Li := [_, _]) (Lo := Lo) (news := bkCells ⟨_, n, n + 1, false⟩) un84pas ty91par rfl rfl H wn rfl rfl hrw rfl (H.hp.ocells 0 rfl rfl) rfl (by omega) (by omega) rfl ?_
                              clear H; intro v Lo a w hrwn H; obtain ⟨A, xs, hrw, hcat, heq⟩ := bstep _ hrwn hcat heq; refine s_assign H wn rfl rfl ?_; clear H; intro a H; refine wl_nil ?_; refine hK21 _ _ ?_; clear hK21; refine c_region ?_; refine s_move H wn rfl rfl ?_; clear H; intro a H; refine s_add _ H wn rfl rfl rfl (by omega) (by omega) rfl ?_; clear H; intro a H; (iterate 2 refine s_assign H wn rfl rfl ?_; clear H; intro a H); refine wl_nil ?_; refine hK9 _ _ ?_; clear hK9; refine c_region ?_; refine s_move H wn rfl rfl ?_; clear H; intro a H; refine s_add _ H wn rfl rfl rfl (by omega) (by omega) rfl ?_; clear H; intro a H; refine s_assign H wn rfl rfl ?_; clear H; intro a H; refine wl_nil ?_; refine loop_end ((n + 1, n + 1, false, A, v, xs, Lo)) (by exact (H.pickT (Pl := [_, _]) (Pl' := []) [] (by decide) rfl).sub ⟨rfl, rfl, rfl, rfl, rfl, trivial⟩) ?_ ?_
                              · try dsimp only
                                first
                                | exact ⟨by omega, by omega, hrw, hcat, heq⟩
                                | exact ⟨by omega, by omega, hrw, hcat, by rw [restM_off (by omega)]; exact heq⟩
                              first | omega | (dsimp only; omega)
                          intro h96
                          try have p96 := of_decide_eq_false h96
                          first
                          | (exfalso; omega)
                          | (exact absurd h96 (by decide))
                          | skip
                            rw [if_neg p96] at heq; refine c_skip ?_; refine hK24 _ _ ?_; clear hK24; refine c_region ?_; (iterate 4 refine s_move H wn rfl rfl ?_; clear H; intro a H); refine s_add _ H wn rfl rfl rfl (by omega) (by omega) rfl ?_; clear H; intro a H; refine s_build sr91par [_, _, _, _] H wn rfl rfl rfl rfl ?_; clear H; intro a H; refine s_buildSlice un84pas ty91par [_, _, _, _] [_, _, _, _] H wn rfl rfl rfl rfl rfl (by intro i q h; match i, h with | 0, h => exact h | n + 1, h => simp at h) rfl rfl ?_; clear H; intro b103 a w hb103 H
                            first
                              | refine s_append (Li := [_]) (Lo := Lo) (news := bkCells ⟨_, n, n + 1, false⟩) un84pas ty91par rfl rfl H wn rfl rfl hrw rfl (H.hp.ocells 0 rfl rfl) rfl (by omega) (by omega) rfl ?_
                              | refine s_append (Li := [_, _]) (Lo := Lo) (news := bkCells ⟨_, n, n + 1, false⟩) un84pas ty91par rfl rfl H wn rfl rfl hrw rfl (H.hp.ocells 0 rfl rfl) rfl (by omega) (by omega) rfl ?_
                            clear H; intro v Lo a w hrwn H; obtain ⟨A, xs, hrw, hcat, heq⟩ := bstep _ hrwn hcat heq; refine s_assign H wn rfl rfl ?_; clear H; intro a H; refine wl_nil ?_; refine hK21 _ _ ?_; clear hK21; refine c_region ?_; refine s_move H wn rfl rfl ?_; clear H; intro a H; refine s_add _ H wn rfl rfl rfl (by omega) (by omega) rfl ?_; clear H; intro a H; (iterate 2 refine s_assign H wn rfl rfl ?_; clear H; intro a H); refine wl_nil ?_; refine hK9 _ _ ?_; clear hK9; refine c_region ?_; refine s_move H wn rfl rfl ?_; clear H; intro a H; refine s_add _ H wn rfl rfl rfl (by omega) (by omega) rfl ?_; clear H; intro a H; refine s_assign H wn rfl rfl ?_; clear H; intro a H; refine wl_nil ?_; refine loop_end ((n + 1, n + 1, false, A, v, xs, Lo)) (by exact (H.pickT (Pl := [_, _]) (Pl' := []) [] (by decide) rfl).sub ⟨rfl, rfl, rfl, rfl, rfl, trivial⟩) ?_ ?_
                            · try dsimp only
                              first
                              | exact ⟨by omega, by omega, hrw, hcat, heq⟩
                              | exact ⟨by omega, by omega, hrw, hcat, by rw [restM_off (by omega)]; exact heq⟩
                            first | omega | (dsimp only; omega)
                      intro h68
                      try have p68 := of_decide_eq_false h68
                      first
                      | (exfalso; omega)
                      | (exact absurd h68 (by decide))
                      | skip
                        subst h68; rw [tailM_f (by omega)] at heq; refine c_skip ?_; refine hK17 _ _ ?_; clear hK17; refine c_seq (fun _ hK26 => ?_); refine c_seqR (fun _ hK27 => ?_); (iterate 2 refine s_move H wn rfl rfl ?_; clear H; intro a H); refine s_cmp H wn rfl rfl rfl rfl ?_; clear H; intro a H; refine s_move H wn rfl rfl ?_; clear H; intro a H; refine s_move H (wg H rfl rfl h66) rfl rfl ?_; clear H; intro a H; refine s_not H (wg H rfl rfl h66) rfl rfl ?_; clear H; intro a H; refine s_pick_t H wn rfl h66 rfl rfl ?_; clear H; intro a H; refine hK27 _ _ ?_; clear hK27; refine c_cond_t H rfl rfl ?_; refine c_region ?_; (iterate 3 refine s_move H wn rfl rfl ?_; clear H; intro a H); refine s_build sr91par [_, _, _, _] H wn rfl rfl rfl rfl ?_; clear H; intro a H; refine s_buildSlice un84pas ty91par [_, _, _, _] [_, _, _, _] H wn rfl rfl rfl rfl rfl (by intro i q h; match i, h with | 0, h => exact h | n + 1, h => simp at h) rfl rfl ?_; clear H; intro b86 a w hb86 H; refine s_append (Li := [_]) (Lo := Lo) (news := bkCells ⟨4, fr, n, false⟩) un84pas ty91par rfl rfl H wn rfl rfl hrw rfl (H.hp.ocells 0 rfl rfl) rfl (by omega) (by omega) rfl ?_; clear H; intro v Lo a w hrwn H; obtain ⟨A, xs, hrw, hcat, heq⟩ := bstep _ hrwn hcat heq
                        have hal : A.length ≤ 2147483649 := by have := congrArg List.length heq; rw [List.length_append] at this; omega
                        refine s_assign H wn rfl rfl ?_; clear H; intro a H; refine wl_nil ?_; refine hK26 _ _ ?_; clear hK26; refine c_seq (fun _ hK28 => ?_); refine c_seqR (fun _ hK29 => ?_); (iterate 2 refine s_move H wn rfl rfl ?_; clear H; intro a H); refine s_len un38l14c H wn rfl rfl ?_; clear H; intro a H; refine s_cmp H wn rfl rfl rfl rfl ?_; clear H; intro a H; refine hK29 _ _ ?_; clear hK29; refine c_cond_t H rfl h21 ?_; refine c_seqR (fun _ hK30 => ?_); refine s_assign H wn rfl rfl ?_; clear H; intro a H; refine hK30 _ _ ?_; clear hK30; refine c_seq (fun _ hK31 => ?_); refine c_seqR (fun _ hK32 => ?_); (iterate 2 refine s_move H wn rfl rfl ?_; clear H; intro a H); refine s_index un38l14c ty3run _ H wn rfl rfl rfl (by first | assumption | omega) rfl ?_; clear H; intro a H; refine s_load ty3run H wn rfl (H.hp.gcell (by assumption)) rfl ?_; clear H; intro a H; refine s_cmp H wn rfl rfl rfl rfl ?_; clear H; intro a H; refine hK32 _ _ ?_; clear hK32; refine c_cond H rfl ?_ ?_
                        · intro h96
                          try have p96 := of_decide_eq_true h96
                          first
                          | (exfalso; omega)
                          | (exact absurd h96 (by decide))
                          | skip
                            rw [if_pos p96] at heq; refine c_region ?_; refine s_assign H wn rfl rfl ?_; clear H; intro a H; refine wl_nil ?_; refine hK31 _ _ ?_; clear hK31; refine c_region ?_; (iterate 4 refine s_move H wn rfl rfl ?_; clear H; intro a H); refine s_add _ H wn rfl rfl rfl (by omega) (by omega) rfl ?_; clear H; intro a H; refine s_build sr91par [_, _, _, _] H wn rfl rfl rfl rfl ?_; clear H; intro a H; refine s_buildSlice un84pas ty91par [_, _, _, _] [_, _, _, _] H wn rfl rfl rfl rfl rfl (by intro i q h; match i, h with | 0, h => exact h | n + 1, h => simp at h) rfl rfl ?_; clear H; intro b103 a w hb103 H
                            first
                              | refine s_append (Li := [_]) (Lo := Lo) (news := bkCells ⟨_, n, n + 1, false⟩) un84pas ty91par rfl rfl H wn rfl rfl hrw rfl (H.hp.ocells 0 rfl rfl) rfl (by omega) (by omega) rfl ?_
                              | refine s_append (Li := [_, _]) (Lo := Lo) (news := bkCells ⟨_, n, n + 1, false⟩) un84pas ty91par rfl rfl H wn rfl rfl hrw rfl (H.hp.ocells 0 rfl rfl) rfl (by omega) (by omega) rfl ?_
                            clear H; intro v Lo a w hrwn H; obtain ⟨A, xs, hrw, hcat, heq⟩ := bstep _ hrwn hcat heq; refine s_assign H wn rfl rfl ?_; clear H; intro a H; refine wl_nil ?_; refine hK28 _ _ ?_; clear hK28; refine c_region ?_; refine s_move H wn rfl rfl ?_; clear H; intro a H; refine s_add _ H wn rfl rfl rfl (by omega) (by omega) rfl ?_; clear H; intro a H; (iterate 2 refine s_assign H wn rfl rfl ?_; clear H; intro a H); refine wl_nil ?_; refine hK9 _ _ ?_; clear hK9; refine c_region ?_; refine s_move H wn rfl rfl ?_; clear H; intro a H; refine s_add _ H wn rfl rfl rfl (by omega) (by omega) rfl ?_; clear H; intro a H; refine s_assign H wn rfl rfl ?_; clear H; intro a H; refine wl_nil ?_; refine loop_end ((n + 1, n + 1, false, A, v, xs, Lo)) (by exact (H.pickT (Pl := [_, _]) (Pl' := []) [] (by decide) rfl).sub ⟨rfl, rfl, rfl, rfl, rfl, trivial⟩) ?_ ?_
                            · try dsimp only
                              first
                              | exact ⟨by omega, by omega, hrw, hcat, heq⟩
                              | exact ⟨by omega, by omega, hrw, hcat, by rw [restM_off (by omega)]; exact heq⟩
                            first | omega | (dsimp only; omega)
                        intro h96
                        try have p96 := of_decide_eq_false h96
                        first
                        | (exfalso; omega)
                        | (exact absurd h96 (by decide))
                        | skip
                          rw [if_neg p96] at heq; refine c_skip ?_; refine hK31 _ _ ?_; clear hK31; refine c_region ?_; (iterate 4 refine s_move H wn rfl rfl ?_; clear H; intro a H); refine s_add _ H wn rfl rfl rfl (by omega) (by omega) rfl ?_; clear H; intro a H; refine s_build sr91par [_, _, _, _] H wn rfl rfl rfl rfl ?_; clear H; intro a H; refine s_buildSlice un84pas ty91par [_, _, _, _] [_, _, _, _] H wn rfl rfl rfl rfl rfl (by intro i q h; match i, h with | 0, h => exact h | n + 1, h => simp at h) rfl rfl ?_; clear H; intro b103 a w hb103 H
                          first
                            | refine s_append (Li := [_]) (Lo := Lo) (news := bkCells ⟨_, n, n + 1, false⟩) un84pas ty91par rfl rfl H wn rfl rfl hrw rfl (H.hp.ocells 0 rfl rfl) rfl (by omega) (by omega) rfl ?_
                            | refine s_append (Li := [_, _]) (Lo := Lo) (news := bkCells ⟨_, n, n + 1, false⟩) un84pas ty91par rfl rfl H wn rfl rfl hrw rfl (H.hp.ocells 0 rfl rfl) rfl (by omega) (by omega) rfl ?_
                          clear H; intro v Lo a w hrwn H; obtain ⟨A, xs, hrw, hcat, heq⟩ := bstep _ hrwn hcat heq; refine s_assign H wn rfl rfl ?_; clear H; intro a H; refine wl_nil ?_; refine hK28 _ _ ?_; clear hK28; refine c_region ?_; refine s_move H wn rfl rfl ?_; clear H; intro a H; refine s_add _ H wn rfl rfl rfl (by omega) (by omega) rfl ?_; clear H; intro a H; (iterate 2 refine s_assign H wn rfl rfl ?_; clear H; intro a H); refine wl_nil ?_; refine hK9 _ _ ?_; clear hK9; refine c_region ?_; refine s_move H wn rfl rfl ?_; clear H; intro a H; refine s_add _ H wn rfl rfl rfl (by omega) (by omega) rfl ?_; clear H; intro a H; refine s_assign H wn rfl rfl ?_; clear H; intro a H; refine wl_nil ?_; refine loop_end ((n + 1, n + 1, false, A, v, xs, Lo)) (by exact (H.pickT (Pl := [_, _]) (Pl' := []) [] (by decide) rfl).sub ⟨rfl, rfl, rfl, rfl, rfl, trivial⟩) ?_ ?_
                          · try dsimp only
                            first
                            | exact ⟨by omega, by omega, hrw, hcat, heq⟩
                            | exact ⟨by omega, by omega, hrw, hcat, by rw [restM_off (by omega)]; exact heq⟩
                          first | omega | (dsimp only; omega)
                  intro h66
                  try have p66 := of_decide_eq_false h66
                  first
                  | (exfalso; omega)
                  | (exact absurd h66 (by decide))
                  | skip
                    rw [tailM_no (by omega)] at heq; refine s_skip H rfl rfl h66 rfl ?_; clear H; intro a H; refine s_pick_f H wn rfl h66 rfl rfl ?_; clear H; intro a H; refine hK18 _ _ ?_; clear hK18; refine c_cond_f H rfl rfl ?_; refine c_skip ?_; refine hK17 _ _ ?_; clear hK17; refine c_seq (fun _ hK33 => ?_); refine c_seqR (fun _ hK34 => ?_); (iterate 2 refine s_move H wn rfl rfl ?_; clear H; intro a H); refine s_cmp H wn rfl rfl rfl rfl ?_; clear H; intro a H; refine s_move H wn rfl rfl ?_; clear H; intro a H; (iterate 2 refine s_skip H rfl rfl h66 rfl ?_; clear H; intro a H); refine s_pick_f H wn rfl h66 rfl rfl ?_; clear H; intro a H; refine hK34 _ _ ?_; clear hK34; refine c_cond_f H rfl rfl ?_; refine c_skip ?_; refine hK33 _ _ ?_; clear hK33; refine c_seq (fun _ hK35 => ?_); refine c_seqR (fun _ hK36 => ?_); (iterate 2 refine s_move H wn rfl rfl ?_; clear H; intro a H); refine s_len un38l14c H wn rfl rfl ?_; clear H; intro a H; refine s_cmp H wn rfl rfl rfl rfl ?_; clear H; intro a H; refine hK36 _ _ ?_; clear hK36; refine c_cond_t H rfl h21 ?_; refine c_seqR (fun _ hK37 => ?_); refine s_assign H wn rfl rfl ?_; clear H; intro a H; refine hK37 _ _ ?_; clear hK37; refine c_seq (fun _ hK38 => ?_); refine c_seqR (fun _ hK39 => ?_); (iterate 2 refine s_move H wn rfl rfl ?_; clear H; intro a H); refine s_index un38l14c ty3run _ H wn rfl rfl rfl (by first | assumption | omega) rfl ?_; clear H; intro a H; refine s_load ty3run H wn rfl (H.hp.gcell (by assumption)) rfl ?_; clear H; intro a H; refine s_cmp H wn rfl rfl rfl rfl ?_; clear H; intro a H; refine hK39 _ _ ?_; clear hK39; refine c_cond H rfl ?_ ?_
                    · intro h96
                      try have p96 := of_decide_eq_true h96
                      first
                      | (exfalso; omega)
                      | (exact absurd h96 (by decide))
                      | skip
                        rw [if_pos p96] at heq; refine c_region ?_; refine s_assign H wn rfl rfl ?_; clear H; intro a H; refine wl_nil ?_; refine hK38 _ _ ?_; clear hK38; refine c_region ?_; (iterate 4 refine s_move H wn rfl rfl ?_; clear H; intro a H); refine s_add _ H wn rfl rfl rfl (by omega) (by omega) rfl ?_; clear H; intro a H; refine s_build sr91par [_, _, _, _] H wn rfl rfl rfl rfl ?_; clear H; intro a H; refine s_buildSlice un84pas ty91par [_, _, _, _] [_, _, _, _] H wn rfl rfl rfl rfl rfl (by intro i q h; match i, h with | 0, h => exact h | n + 1, h => simp at h) rfl rfl ?_; clear H; intro b103 a w hb103 H
                        first
                          | refine s_append (Li := [_]) (Lo := Lo) (news := bkCells ⟨_, n, n + 1, false⟩) un84pas ty91par rfl rfl H wn rfl rfl hrw rfl (H.hp.ocells 0 rfl rfl) rfl (by omega) (by omega) rfl ?_
                          | refine s_append (Li := [_, _]) (Lo := Lo) (news := bkCells ⟨_, n, n + 1, false⟩) un84pas ty91par rfl rfl H wn rfl rfl hrw rfl (H.hp.ocells 0 rfl rfl) rfl (by omega) (by omega) rfl ?_
                        clear H; intro v Lo a w hrwn H; obtain ⟨A, xs, hrw, hcat, heq⟩ := bstep _ hrwn hcat heq; refine s_assign H wn rfl rfl ?_; clear H; intro a H; refine wl_nil ?_; refine hK35 _ _ ?_; clear hK35; refine c_region ?_; refine s_move H wn rfl rfl ?_; clear H; intro a H; refine s_add _ H wn rfl rfl rfl (by omega) (by omega) rfl ?_; clear H; intro a H; (iterate 2 refine s_assign H wn rfl rfl ?_; clear H; intro a H); refine wl_nil ?_; refine hK9 _ _ ?_; clear hK9; refine c_region ?_; refine s_move H wn rfl rfl ?_; clear H; intro a H; refine s_add _ H wn rfl rfl rfl (by omega) (by omega) rfl ?_; clear H; intro a H; refine s_assign H wn rfl rfl ?_; clear H; intro a H; refine wl_nil ?_; refine loop_end ((n + 1, n + 1, false, A, v, xs, Lo)) (by exact (H.pickT (Pl := [_]) (Pl' := []) [] (by decide) rfl).sub ⟨rfl, rfl, rfl, rfl, rfl, trivial⟩) ?_ ?_
                        · try dsimp only
                          first
                          | exact ⟨by omega, by omega, hrw, hcat, heq⟩
                          | exact ⟨by omega, by omega, hrw, hcat, by rw [restM_off (by omega)]; exact heq⟩
                        first | omega | (dsimp only; omega)
                    intro h96
                    try have p96 := of_decide_eq_false h96
                    first
                    | (exfalso; omega)
                    | (exact absurd h96 (by decide))
                    | skip
                      rw [if_neg p96] at heq; refine c_skip ?_; refine hK38 _ _ ?_; clear hK38; refine c_region ?_; (iterate 4 refine s_move H wn rfl rfl ?_; clear H; intro a H); refine s_add _ H wn rfl rfl rfl (by omega) (by omega) rfl ?_; clear H; intro a H; refine s_build sr91par [_, _, _, _] H wn rfl rfl rfl rfl ?_; clear H; intro a H; refine s_buildSlice un84pas ty91par [_, _, _, _] [_, _, _, _] H wn rfl rfl rfl rfl rfl (by intro i q h; match i, h with | 0, h => exact h | n + 1, h => simp at h) rfl rfl ?_; clear H; intro b103 a w hb103 H
                      first
                        | refine s_append (Li := [_]) (Lo := Lo) (news := bkCells ⟨_, n, n + 1, false⟩) un84pas ty91par rfl rfl H wn rfl rfl hrw rfl (H.hp.ocells 0 rfl rfl) rfl (by omega) (by omega) rfl ?_
                        | refine s_append (Li := [_, _]) (Lo := Lo) (news := bkCells ⟨_, n, n + 1, false⟩) un84pas ty91par rfl rfl H wn rfl rfl hrw rfl (H.hp.ocells 0 rfl rfl) rfl (by omega) (by omega) rfl ?_
                      clear H; intro v Lo a w hrwn H; obtain ⟨A, xs, hrw, hcat, heq⟩ := bstep _ hrwn hcat heq; refine s_assign H wn rfl rfl ?_; clear H; intro a H; refine wl_nil ?_; refine hK35 _ _ ?_; clear hK35; refine c_region ?_; refine s_move H wn rfl rfl ?_; clear H; intro a H; refine s_add _ H wn rfl rfl rfl (by omega) (by omega) rfl ?_; clear H; intro a H; (iterate 2 refine s_assign H wn rfl rfl ?_; clear H; intro a H); refine wl_nil ?_; refine hK9 _ _ ?_; clear hK9; refine c_region ?_; refine s_move H wn rfl rfl ?_; clear H; intro a H; refine s_add _ H wn rfl rfl rfl (by omega) (by omega) rfl ?_; clear H; intro a H; refine s_assign H wn rfl rfl ?_; clear H; intro a H; refine wl_nil ?_; refine loop_end ((n + 1, n + 1, false, A, v, xs, Lo)) (by exact (H.pickT (Pl := [_]) (Pl' := []) [] (by decide) rfl).sub ⟨rfl, rfl, rfl, rfl, rfl, trivial⟩) ?_ ?_
                      · try dsimp only
                        first
                        | exact ⟨by omega, by omega, hrw, hcat, heq⟩
                        | exact ⟨by omega, by omega, hrw, hcat, by rw [restM_off (by omega)]; exact heq⟩
                      first | omega | (dsimp only; omega)
            intro h48
            try have p48 := of_decide_eq_false h48
            first
            | (exfalso; omega)
            | (exact absurd h48 (by decide))
            | skip
              rw [if_pos (.inl (Decidable.not_not.1 p48))] at heq; (iterate 5 refine s_skip H rfl rfl h48 rfl ?_; clear H; intro a H); refine s_pick_f H wn rfl h48 rfl rfl ?_; clear H; intro a H; refine hK15 _ _ ?_; clear hK15; refine c_cond_f H rfl rfl ?_; refine c_skip ?_; refine hK14 _ _ ?_; clear hK14; refine c_seq (fun _ hK40 => ?_); refine c_seqR (fun _ hK41 => ?_); (iterate 2 refine s_move H wn rfl rfl ?_; clear H; intro a H); refine s_cmp H wn rfl rfl rfl rfl ?_; clear H; intro a H; refine s_move H wn rfl rfl ?_; clear H; intro a H; refine s_split H 66 rfl ?_ ?_
              · intro h66
                try have p66 := of_decide_eq_true h66
                first
                | (exfalso; omega)
                | (exact absurd h66 (by decide))
                | skip
                  refine s_move H (wg H rfl rfl h66) rfl rfl ?_; clear H; intro a H; refine s_pick_t H wn rfl h66 rfl rfl ?_; clear H; intro a H; refine hK41 _ _ ?_; clear hK41; refine c_cond H rfl ?_ ?_
                  · intro h68
                    try have p68 := of_decide_eq_true h68
                    first
                    | (exfalso; omega)
                    | (exact absurd h68 (by decide))
                    | skip
                      subst h68; rw [tailM_t (by omega)] at heq; refine c_region ?_; (iterate 3 refine s_move H wn rfl rfl ?_; clear H; intro a H); refine s_build sr91par [_, _, _, _] H wn rfl rfl rfl rfl ?_; clear H; intro a H; refine s_buildSlice un84pas ty91par [_, _, _, _] [_, _, _, _] H wn rfl rfl rfl rfl rfl (by intro i q h; match i, h with | 0, h => exact h | n + 1, h => simp at h) rfl rfl ?_; clear H; intro b73 a w hb73 H; refine s_append (Li := [_]) (Lo := Lo) (news := bkCells ⟨1, fr, n, false⟩) un84pas ty91par rfl rfl H wn rfl rfl hrw rfl (H.hp.ocells 0 rfl rfl) rfl (by omega) (by omega) rfl ?_; clear H; intro v Lo a w hrwn H; obtain ⟨A, xs, hrw, hcat, heq⟩ := bstep _ hrwn hcat heq
                      have hal : A.length ≤ 2147483649 := by have := congrArg List.length heq; rw [List.length_append] at this; omega
                      refine s_assign H wn rfl rfl ?_; clear H; intro a H; refine wl_nil ?_; refine hK40 _ _ ?_; clear hK40; refine c_seq (fun _ hK42 => ?_); refine c_seqR (fun _ hK43 => ?_); (iterate 2 refine s_move H wn rfl rfl ?_; clear H; intro a H); refine s_cmp H wn rfl rfl rfl rfl ?_; clear H; intro a H; refine s_move H wn rfl rfl ?_; clear H; intro a H; refine s_move H (wg H rfl rfl h66) rfl rfl ?_; clear H; intro a H; refine s_not H (wg H rfl rfl h66) rfl rfl ?_; clear H; intro a H; refine s_pick_t H wn rfl h66 rfl rfl ?_; clear H; intro a H; refine hK43 _ _ ?_; clear hK43; refine c_cond_f H rfl rfl ?_; refine c_skip ?_; refine hK42 _ _ ?_; clear hK42; refine c_seq (fun _ hK44 => ?_); refine c_seqR (fun _ hK45 => ?_); (iterate 2 refine s_move H wn rfl rfl ?_; clear H; intro a H); refine s_len un38l14c H wn rfl rfl ?_; clear H; intro a H; refine s_cmp H wn rfl rfl rfl rfl ?_; clear H; intro a H; refine hK45 _ _ ?_; clear hK45; refine c_cond_t H rfl h21 ?_; refine c_seqR (fun _ hK46 => ?_); refine s_assign H wn rfl rfl ?_; clear H; intro a H; refine hK46 _ _ ?_; clear hK46; refine c_seq (fun _ hK47 => ?_); refine c_seqR (fun _ hK48 => ?_); (iterate 2 refine s_move H wn rfl rfl ?_; clear H; intro a H); refine s_index un38l14c ty3run _ H wn rfl rfl rfl (by first | assumption | omega) rfl ?_; clear H; intro a H; refine s_load ty3run H wn rfl (H.hp.gcell (by assumption)) rfl ?_; clear H; intro a H; refine s_cmp H wn rfl rfl rfl rfl ?_; clear H; intro a H; refine hK48 _ _ ?_; clear hK48; refine c_cond H rfl ?_ ?_
                      · intro h96
                        try have p96 := of_decide_eq_true h96
                        first
                        | (exfalso; omega)
                        | (exact absurd h96 (by decide))
                        | skip
                          rw [if_pos p96] at heq; refine c_region ?_; refine s_assign H wn rfl rfl ?_; clear H; intro a H; refine wl_nil ?_; refine hK47 _ _ ?_; clear hK47; refine c_region ?_; (iterate 4 refine s_move H wn rfl rfl ?_; clear H; intro a H); refine s_add _ H wn rfl rfl rfl (by omega) (by omega) rfl ?_; clear H; intro a H; refine s_build sr91par [_, _, _, _] H wn rfl rfl rfl rfl ?_; clear H; intro a H; refine s_buildSlice un84pas ty91par [_, _, _, _] [_, _, _, _] H wn rfl rfl rfl rfl rfl (by intro i q h; match i, h with | 0, h => exact h | n + 1, h => simp at h) rfl rfl ?_; clear H; intro b103 a w hb103 H
                          first
                            | refine s_append (Li := [_]) (Lo := Lo) (news := bkCells ⟨_, n, n + 1, false⟩) un84pas ty91par rfl rfl H wn rfl rfl hrw rfl (H.hp.ocells 0 rfl rfl) rfl (by omega) (by omega) rfl ?_
                            | refine s_append (Li := [_, _]) (Lo := Lo) (news := bkCells ⟨_, n, n + 1, false⟩) un84pas ty91par rfl rfl H wn rfl rfl hrw rfl (H.hp.ocells 0 rfl rfl) rfl (by omega) (by omega) rfl ?_
                          clear H; intro v Lo a w hrwn H; obtain ⟨A, xs, hrw, hcat, heq⟩ := bstep _ hrwn hcat heq; refine s_assign H wn rfl rfl ?_; clear H; intro a H; refine wl_nil ?_; refine hK44 _ _ ?_; clear hK44; refine c_region ?_; refine s_move H wn rfl rfl ?_; clear H; intro a H; refine s_add _ H wn rfl rfl rfl (by omega) (by omega) rfl ?_; clear H; intro a H; (iterate 2 refine s_assign H wn rfl rfl ?_; clear H; intro a H); refine wl_nil ?_; refine hK9 _ _ ?_; clear hK9; refine c_region ?_; refine s_move H wn rfl rfl ?_; clear H; intro a H; refine s_add _ H wn rfl rfl rfl (by omega) (by omega) rfl ?_; clear H; intro a H; refine s_assign H wn rfl rfl ?_; clear H; intro a H; refine wl_nil ?_; refine loop_end ((n + 1, n + 1, false, A, v, xs, Lo)) (by exact (H.pickT (Pl := [_, _]) (Pl' := []) [] (by decide) rfl).sub ⟨rfl, rfl, rfl, rfl, rfl, trivial⟩) ?_ ?_
                          · try dsimp only
                            first
                            | exact ⟨by omega, by omega, hrw, hcat, heq⟩
                            | exact ⟨by omega, by omega, hrw, hcat, by rw [restM_off (by omega)]; exact heq⟩
                          first | omega | (dsimp only; omega)
                      intro h96
                      try have p96 := of_decide_eq_false h96
                      first
                      | (exfalso; omega)
                      | (exact absurd h96 (by decide))
                      | skip
                        rw [if_neg p96] at heq; refine c_skip ?_; refine hK47 _ _ ?_; clear hK47; refine c_region ?_; (iterate 4 refine s_move H wn rfl rfl ?_; clear H; intro a H); refine s_add _ H wn rfl rfl rfl (by omega) (by omega) rfl ?_; clear H; intro a H; refine s_build sr91par [_, _, _, _] H wn rfl rfl rfl rfl ?_; clear H; intro a H; refine s_buildSlice un84pas ty91par [_, _, _, _] [_, _, _, _] H wn rfl rfl rfl rfl rfl (by intro i q h; match i, h with | 0, h => exact h | n + 1, h => simp at h) rfl rfl ?_; clear H; intro b103 a w hb103 H
                        first
                          | refine s_append (Li := [_]) (Lo := Lo) (news := bkCells ⟨_, n, n + 1, false⟩) un84pas ty91par rfl rfl H wn rfl rfl hrw rfl (H.hp.ocells 0 rfl rfl) rfl (by omega) (by omega) rfl ?_
                          | refine s_append (Li := [_, _]) (Lo := Lo) (news := bkCells ⟨_, n, n + 1, false⟩) un84pas ty91par rfl rfl H wn rfl rfl hrw rfl (H.hp.ocells 0 rfl rfl) rfl (by omega) (by omega) rfl ?_
                        clear H; intro v Lo a w hrwn H; obtain ⟨A, xs, hrw, hcat, heq⟩ := bstep _ hrwn hcat heq; refine s_assign H wn rfl rfl ?_; clear H; intro a H; refine wl_nil ?_; refine hK44 _ _ ?_; clear hK44; refine c_region ?_; refine s_move H wn rfl rfl ?_; clear H; intro a H; refine s_add _ H wn rfl rfl rfl (by omega) (by omega) rfl ?_; clear H; intro a H; (iterate 2 refine s_assign H wn rfl rfl ?_; clear H; intro a H); refine wl_nil ?_; refine hK9 _ _ ?_; clear hK9; refine c_region ?_; refine s_move H wn rfl rfl ?_; clear H; intro a H; refine s_add _ H wn rfl rfl rfl (by omega) (by omega) rfl ?_; clear H; intro a H; refine s_assign H wn rfl rfl ?_; clear H; intro a H; refine wl_nil ?_; refine loop_end ((n + 1, n + 1, false, A, v, xs, Lo)) (by exact (H.pickT (Pl := [_, _]) (Pl' := []) [] (by decide) rfl).sub ⟨rfl, rfl, rfl, rfl, rfl, trivial⟩) ?_ ?_
                        · try dsimp only
                          first
                          | exact ⟨by omega, by omega, hrw, hcat, heq⟩
                          | exact ⟨by omega, by omega, hrw, hcat, by rw [restM_off (by omega)]; exact heq⟩
                        first | omega | (dsimp only; omega)
                  intro h68
                  try have p68 := of_decide_eq_false h68
                  first
                  | (exfalso; omega)
                  | (exact absurd h68 (by decide))
                  | skip
                    subst h68; rw [tailM_f (by omega)] at heq; refine c_skip ?_; refine hK40 _ _ ?_; clear hK40; refine c_seq (fun _ hK49 => ?_); refine c_seqR (fun _ hK50 => ?_); (iterate 2 refine s_move H wn rfl rfl ?_; clear H; intro a H); refine s_cmp H wn rfl rfl rfl rfl ?_; clear H; intro a H; refine s_move H wn rfl rfl ?_; clear H; intro a H; refine s_move H (wg H rfl rfl h66) rfl rfl ?_; clear H; intro a H; refine s_not H (wg H rfl rfl h66) rfl rfl ?_; clear H; intro a H; refine s_pick_t H wn rfl h66 rfl rfl ?_; clear H; intro a H; refine hK50 _ _ ?_; clear hK50; refine c_cond_t H rfl rfl ?_; refine c_region ?_; (iterate 3 refine s_move H wn rfl rfl ?_; clear H; intro a H); refine s_build sr91par [_, _, _, _] H wn rfl rfl rfl rfl ?_; clear H; intro a H; refine s_buildSlice un84pas ty91par [_, _, _, _] [_, _, _, _] H wn rfl rfl rfl rfl rfl (by intro i q h; match i, h with | 0, h => exact h | n + 1, h => simp at h) rfl rfl ?_; clear H; intro b86 a w hb86 H; refine s_append (Li := [_]) (Lo := Lo) (news := bkCells ⟨4, fr, n, false⟩) un84pas ty91par rfl rfl H wn rfl rfl hrw rfl (H.hp.ocells 0 rfl rfl) rfl (by omega) (by omega) rfl ?_; clear H; intro v Lo a w hrwn H; obtain ⟨A, xs, hrw, hcat, heq⟩ := bstep _ hrwn hcat heq
                    have hal : A.length ≤ 2147483649 := by have := congrArg List.length heq; rw [List.length_append] at this; omega
                    refine s_assign H wn rfl rfl ?_; clear H; intro a H; refine wl_nil ?_; refine hK49 _ _ ?_; clear hK49; refine c_seq (fun _ hK51 => ?_); refine c_seqR (fun _ hK52 => ?_); (iterate 2 refine s_move H wn rfl rfl ?_; clear H; intro a H); refine s_len un38l14c H wn rfl rfl ?_; clear H; intro a H; refine s_cmp H wn rfl rfl rfl rfl ?_; clear H; intro a H; refine hK52 _ _ ?_; clear hK52; refine c_cond_t H rfl h21 ?_; refine c_seqR (fun _ hK53 => ?_); refine s_assign H wn rfl rfl ?_; clear H; intro a H; refine hK53 _ _ ?_; clear hK53; refine c_seq (fun _ hK54 => ?_); refine c_seqR (fun _ hK55 => ?_); (iterate 2 refine s_move H wn rfl rfl ?_; clear H; intro a H); refine s_index un38l14c ty3run _ H wn rfl rfl rfl (by first | assumption | omega) rfl ?_; clear H; intro a H; refine s_load ty3run H wn rfl (H.hp.gcell (by assumption)) rfl ?_; clear H; intro a H; refine s_cmp H wn rfl rfl rfl rfl ?_; clear H; intro a H; refine hK55 _ _ ?_; clear hK55; refine c_cond H rfl ?_ ?_
                    · intro h96
                      try have p96 := of_decide_eq_true h96
                      first
                      | (exfalso; omega)
                      | (exact absurd h96 (by decide))
                      | skip
                        rw [if_pos p96] at heq; refine c_region ?_; refine s_assign H wn rfl rfl ?_; clear H; intro a H; refine wl_nil ?_; refine hK54 _ _ ?_; clear hK54; refine c_region ?_; (iterate 4 refine s_move H wn rfl rfl ?_; clear H; intro a H); refine s_add _ H wn rfl rfl rfl (by omega) (by omega) rfl ?_; clear H; intro a H; refine s_build sr91par [_, _, _, _] H wn rfl rfl rfl rfl ?_; clear H; intro a H; refine s_buildSlice un84pas ty91par [_, _, _, _] [_, _, _, _] H wn rfl rfl rfl rfl rfl (by intro i q h; match i, h with | 0, h => exact h | n + 1, h => simp at h) rfl rfl ?_; clear H; intro b103 a w hb103 H
                        first
                          | refine s_append (Li := [_]) (Lo := Lo) (news := bkCells ⟨_, n, n + 1, false⟩) un84pas ty91par rfl rfl H wn rfl rfl hrw rfl (H.hp.ocells 0 rfl rfl) rfl (by omega) (by omega) rfl ?_
                          | refine s_append (Li := [_, _]) (Lo := Lo) (news := bkCells ⟨_, n, n + 1, false⟩) un84pas ty91par rfl rfl H wn rfl rfl hrw rfl (H.hp.ocells 0 rfl rfl) rfl (by omega) (by omega) rfl ?_
                        clear H; intro v Lo a w hrwn H; obtain ⟨A, xs, hrw, hcat, heq⟩ := bstep _ hrwn hcat heq; refine s_assign H wn rfl rfl ?_; clear H; intro a H; refine wl_nil ?_; refine hK51 _ _ ?_; clear hK51; refine c_region ?_; refine s_move H wn rfl rfl ?_; clear H; intro a H; refine s_add _ H wn rfl rfl rfl (by omega) (by omega) rfl ?_; clear H; intro a H; (iterate 2 refine s_assign H wn rfl rfl ?_; clear H; intro a H); refine wl_nil ?_; refine hK9 _ _ ?_; clear hK9; refine c_region ?_; refine s_move H wn rfl rfl ?_; clear H; intro a H; refine s_add _ H wn rfl rfl rfl (by omega) (by omega) rfl ?_; clear H; intro a H; refine s_assign H wn rfl rfl ?_; clear H; intro a H; refine wl_nil ?_; refine loop_end ((n + 1, n + 1, false, A, v, xs, Lo)) (by exact (H.pickT (Pl := [_, _]) (Pl' := []) [] (by decide) rfl).sub ⟨rfl, rfl, rfl, rfl, rfl, trivial⟩) ?_ ?_
                        · try dsimp only
                          first
                          | exact ⟨by omega, by omega, hrw, hcat, heq⟩
                          | exact ⟨by omega, by omega, hrw, hcat, by rw [restM_off (by omega)]; exact heq⟩
                        first | omega | (dsimp only; omega)
                    intro h96
                    try have p96 := of_decide_eq_false h96
                    first
                    | (exfalso; omega)
                    | (exact absurd h96 (by decide))
                    | skip
                      rw [if_neg p96] at heq; refine c_skip ?_; refine hK54 _ _ ?_; clear hK54; refine c_region ?_; (iterate 4 refine s_move H wn rfl rfl ?_; clear H; intro a H); refine s_add _ H wn rfl rfl rfl (by omega) (by omega) rfl ?_; clear H; intro a H; refine s_build sr91par [_, _, _, _] H wn rfl rfl rfl rfl ?_; clear H; intro a H; refine s_buildSlice un84pas ty91par [_, _, _, _] [_, _, _, _] H wn rfl rfl rfl rfl rfl (by intro i q h; match i, h with | 0, h => exact h | n + 1, h => simp at h) rfl rfl ?_; clear H; intro b103 a w hb103 H
                      first
                        | refine s_append (Li := [_]) (Lo := Lo) (news := bkCells ⟨_, n, n + 1, false⟩) un84pas ty91par rfl rfl H wn rfl rfl hrw rfl (H.hp.ocells 0 rfl rfl) rfl (by omega) (by omega) rfl ?_
                        | refine s_append (Li := [_, _]) (Lo := Lo) (news := bkCells ⟨_, n, n + 1, false⟩) un84pas ty91par rfl rfl H wn rfl rfl hrw rfl (H.hp.ocells 0 rfl rfl) rfl (by omega) (by omega) rfl ?_
                      clear H; intro v Lo a w hrwn H; obtain ⟨A, xs, hrw, hcat, heq⟩ := bstep _ hrwn hcat heq; refine s_assign H wn rfl rfl ?_; clear H; intro a H; refine wl_nil ?_; refine hK51 _ _ ?_; clear hK51; refine c_region ?_; refine s_move H wn rfl rfl ?_; clear H; intro a H; refine s_add _ H wn rfl rfl rfl (by omega) (by omega) rfl ?_; clear H; intro a H; (iterate 2 refine s_assign H wn rfl rfl ?_; clear H; intro a H); refine wl_nil ?_; refine hK9 _ _ ?_; clear hK9; refine c_region ?_; refine s_move H wn rfl rfl ?_; clear H; intro a H; refine s_add _ H wn rfl rfl rfl (by omega) (by omega) rfl ?_; clear H; intro a H; refine s_assign H wn rfl rfl ?_; clear H; intro a H; refine wl_nil ?_; refine loop_end ((n + 1, n + 1, false, A, v, xs, Lo)) (by exact (H.pickT (Pl := [_, _]) (Pl' := []) [] (by decide) rfl).sub ⟨rfl, rfl, rfl, rfl, rfl, trivial⟩) ?_ ?_
                      · try dsimp only
                        first
                        | exact ⟨by omega, by omega, hrw, hcat, heq⟩
                        | exact ⟨by omega, by omega, hrw, hcat, by rw [restM_off (by omega)]; exact heq⟩
                      first | omega | (dsimp only; omega)
              intro h66
              try have p66 := of_decide_eq_false h66
              first
              | (exfalso; omega)
              | (exact absurd h66 (by decide))
              | skip
                rw [tailM_no (by omega)] at heq; refine s_skip H rfl rfl h66 rfl ?_; clear H; intro a H; refine s_pick_f H wn rfl h66 rfl rfl ?_; clear H; intro a H; refine hK41 _ _ ?_; clear hK41; refine c_cond_f H rfl rfl ?_; refine c_skip ?_; refine hK40 _ _ ?_; clear hK40; refine c_seq (fun _ hK56 => ?_); refine c_seqR (fun _ hK57 => ?_); (iterate 2 refine s_move H wn rfl rfl ?_; clear H; intro a H); refine s_cmp H wn rfl rfl rfl rfl ?_; clear H; intro a H; refine s_move H wn rfl rfl ?_; clear H; intro a H; (iterate 2 refine s_skip H rfl rfl h66 rfl ?_; clear H; intro a H); refine s_pick_f H wn rfl h66 rfl rfl ?_; clear H; intro a H; refine hK57 _ _ ?_; clear hK57; refine c_cond_f H rfl rfl ?_; refine c_skip ?_; refine hK56 _ _ ?_; clear hK56; refine c_seq (fun _ hK58 => ?_); refine c_seqR (fun _ hK59 => ?_); (iterate 2 refine s_move H wn rfl rfl ?_; clear H; intro a H); refine s_len un38l14c H wn rfl rfl ?_; clear H; intro a H; refine s_cmp H wn rfl rfl rfl rfl ?_; clear H; intro a H; refine hK59 _ _ ?_; clear hK59; refine c_cond_t H rfl h21 ?_; refine c_seqR (fun _ hK60 => ?_); refine s_assign H wn rfl rfl ?_; clear H; intro a H; refine hK60 _ _ ?_; clear hK60; refine c_seq (fun _ hK61 => ?_); refine c_seqR (fun _ hK62 => ?_); (iterate 2 refine s_move H wn rfl rfl ?_; clear H; intro a H); refine s_index un38l14c ty3run _ H wn rfl rfl rfl (by first | assumption | omega) rfl ?_; clear H; intro a H; refine s_load ty3run H wn rfl (H.hp.gcell (by assumption)) rfl ?_; clear H; intro a H; refine s_cmp H wn rfl rfl rfl rfl ?_; clear H; intro a H; refine hK62 _ _ ?_; clear hK62; refine c_cond H rfl ?_ ?_
                · intro h96
                  try have p96 := of_decide_eq_true h96
                  first
                  | (exfalso; omega)
                  | (exact absurd h96 (by decide))
                  | skip
                    rw [if_pos p96] at heq; refine c_region ?_; refine s_assign H wn rfl rfl ?_; clear H; intro a H; refine wl_nil ?_; refine hK61 _ _ ?_; clear hK61; refine c_region ?_; (iterate 4 refine s_move H wn rfl rfl ?_; clear H; intro a H); refine s_add _ H wn rfl rfl rfl (by omega) (by omega) rfl ?_; clear H; intro a H; refine s_build sr91par [_, _, _, _] H wn rfl rfl rfl rfl ?_; clear H; intro a H; refine s_buildSlice un84pas ty91par [_, _, _, _] [_, _, _, _] H wn rfl rfl rfl rfl rfl (by intro i q h; match i, h with | 0, h => exact h | n + 1, h => simp at h) rfl rfl ?_; clear H; intro b103 a w hb103 H
                    first
                      | refine s_append (Li := [_]) (Lo := Lo) (news := bkCells ⟨_, n, n + 1, false⟩) un84pas ty91par rfl rfl H wn rfl rfl hrw rfl (H.hp.ocells 0 rfl rfl) rfl (by omega) (by omega) rfl ?_
                      | refine s_append (Li := [_, _]) (Lo := Lo) (news := bkCells ⟨_, n, n + 1, false⟩) un84pas ty91par rfl rfl H wn rfl rfl hrw rfl (H.hp.ocells 0 rfl rfl) rfl (by omega) (by omega) rfl ?_
                    clear H; intro v Lo a w hrwn H; obtain ⟨A, xs, hrw, hcat, heq⟩ := bstep _ hrwn hcat heq; refine s_assign H wn rfl rfl ?_; clear H; intro a H; refine wl_nil ?_; refine hK58 _ _ ?_; clear hK58; refine c_region ?_; refine s_move H wn rfl rfl ?_; clear H; intro a H; refine s_add _ H wn rfl rfl rfl (by omega) (by omega) rfl ?_; clear H; intro a H; (iterate 2 refine s_assign H wn rfl rfl ?_; clear H; intro a H); refine wl_nil ?_; refine hK9 _ _ ?_; clear hK9; refine c_region ?_; refine s_move H wn rfl rfl ?_; clear H; intro a H; refine s_add _ H wn rfl rfl rfl (by omega) (by omega) rfl ?_; clear H; intro a H; refine s_assign H wn rfl rfl ?_; clear H; intro a H; refine wl_nil ?_; refine loop_end ((n + 1, n + 1, false, A, v, xs, Lo)) (by exact (H.pickT (Pl := [_]) (Pl' := []) [] (by decide) rfl).sub ⟨rfl, rfl, rfl, rfl, rfl, trivial⟩) ?_ ?_
                    · try dsimp only
                      first
                      | exact ⟨by omega, by omega, hrw, hcat, heq⟩
                      | exact ⟨by omega, by omega, hrw, hcat, by rw [restM_off (by omega)]; exact heq⟩
                    first | omega | (dsimp only; omega)
                intro h96
                try have p96 := of_decide_eq_false h96
                first
                | (exfalso; omega)
                | (exact absurd h96 (by decide))
                | skip
                  rw [if_neg p96] at heq; refine c_skip ?_; refine hK61 _ _ ?_; clear hK61; refine c_region ?_; (iterate 4 refine s_move H wn rfl rfl ?_; clear H; intro a H); refine s_add _ H wn rfl rfl rfl (by omega) (by omega) rfl ?_; clear H; intro a H; refine s_build sr91par [_, _, _, _] H wn rfl rfl rfl rfl ?_; clear H; intro a H; refine s_buildSlice un84pas ty91par [_, _, _, _] [_, _, _, _] H wn rfl rfl rfl rfl rfl (by intro i q h; match i, h with | 0, h => exact h | n + 1, h => simp at h) rfl rfl ?_; clear H; intro b103 a w hb103 H
                  first
                    | refine s_append (Li := [_]) (Lo := Lo) (news := bkCells ⟨_, n, n + 1, false⟩) un84pas ty91par rfl rfl H wn rfl rfl hrw rfl (H.hp.ocells 0 rfl rfl) rfl (by omega) (by omega) rfl ?_
                    | refine s_append (Li := [_, _]) (Lo := Lo) (news := bkCells ⟨_, n, n + 1, false⟩) un84pas ty91par rfl rfl H wn rfl rfl hrw rfl (H.hp.ocells 0 rfl rfl) rfl (by omega) (by omega) rfl ?_
                  clear H; intro v Lo a w hrwn H; obtain ⟨A, xs, hrw, hcat, heq⟩ := bstep _ hrwn hcat heq; refine s_assign H wn rfl rfl ?_; clear H; intro a H; refine wl_nil ?_; refine hK58 _ _ ?_; clear hK58; refine c_region ?_; refine s_move H wn rfl rfl ?_; clear H; intro a H; refine s_add _ H wn rfl rfl rfl (by omega) (by omega) rfl ?_; clear H; intro a H; (iterate 2 refine s_assign H wn rfl rfl ?_; clear H; intro a H); refine wl_nil ?_; refine hK9 _ _ ?_; clear hK9; refine c_region ?_; refine s_move H wn rfl rfl ?_; clear H; intro a H; refine s_add _ H wn rfl rfl rfl (by omega) (by omega) rfl ?_; clear H; intro a H; refine s_assign H wn rfl rfl ?_; clear H; intro a H; refine wl_nil ?_; refine loop_end ((n + 1, n + 1, false, A, v, xs, Lo)) (by exact (H.pickT (Pl := [_]) (Pl' := []) [] (by decide) rfl).sub ⟨rfl, rfl, rfl, rfl, rfl, trivial⟩) ?_ ?_
                  · try dsimp only
                    first
                    | exact ⟨by omega, by omega, hrw, hcat, heq⟩
                    | exact ⟨by omega, by omega, hrw, hcat, by rw [restM_off (by omega)]; exact heq⟩
                  first | omega | (dsimp only; omega)
      intro h21
      try have p21 := of_decide_eq_false h21
      first
      | (exfalso; omega)
      | (exact absurd h21 (by decide))
      | skip
        have hn : n = ks.length := by omega
        rw [restM_end hn] at heq; (iterate 5 refine s_skip H rfl rfl h21 rfl ?_; clear H; intro a H); refine s_pick_f H wn rfl h21 rfl rfl ?_; clear H; intro a H; refine hK11 _ _ ?_; clear hK11; refine c_cond_f H rfl rfl ?_; refine c_skip ?_; refine hK10 _ _ ?_; clear hK10; refine c_seq (fun _ hK63 => ?_); refine c_seqR (fun _ hK64 => ?_); (iterate 2 refine s_move H wn rfl rfl ?_; clear H; intro a H); refine s_len un38l14c H wn rfl rfl ?_; clear H; intro a H; refine s_cmp H wn rfl rfl rfl rfl ?_; clear H; intro a H; refine s_move H wn rfl rfl ?_; clear H; intro a H; (iterate 5 refine s_skip H rfl rfl h21 rfl ?_; clear H; intro a H); refine s_pick_f H wn rfl h21 rfl rfl ?_; clear H; intro a H; refine s_move H wn rfl rfl ?_; clear H; intro a H; (iterate 5 refine s_skip H rfl rfl rfl rfl ?_; clear H; intro a H); refine s_pick_f H wn rfl rfl rfl rfl ?_; clear H; intro a H; refine hK64 _ _ ?_; clear hK64; refine c_cond_f H rfl rfl ?_; refine c_skip ?_; refine hK63 _ _ ?_; clear hK63; refine c_seq (fun _ hK65 => ?_); refine c_seqR (fun _ hK66 => ?_); (iterate 2 refine s_move H wn rfl rfl ?_; clear H; intro a H); refine s_cmp H wn rfl rfl rfl rfl ?_; clear H; intro a H; refine s_move H wn rfl rfl ?_; clear H; intro a H; refine s_split H 66 rfl ?_ ?_
        · intro h66
          try have p66 := of_decide_eq_true h66
          first
          | (exfalso; omega)
          | (exact absurd h66 (by decide))
          | skip
            refine s_move H (wg H rfl rfl h66) rfl rfl ?_; clear H; intro a H; refine s_pick_t H wn rfl h66 rfl rfl ?_; clear H; intro a H; refine hK66 _ _ ?_; clear hK66; refine c_cond H rfl ?_ ?_
            · intro h68
              try have p68 := of_decide_eq_true h68
              first
              | (exfalso; omega)
              | (exact absurd h68 (by decide))
              | skip
                subst h68; rw [tailM_t (by omega)] at heq; refine c_region ?_; (iterate 3 refine s_move H wn rfl rfl ?_; clear H; intro a H); refine s_build sr91par [_, _, _, _] H wn rfl rfl rfl rfl ?_; clear H; intro a H; refine s_buildSlice un84pas ty91par [_, _, _, _] [_, _, _, _] H wn rfl rfl rfl rfl rfl (by intro i q h; match i, h with | 0, h => exact h | n + 1, h => simp at h) rfl rfl ?_; clear H; intro b73 a w hb73 H; refine s_append (Li := [_]) (Lo := Lo) (news := bkCells ⟨1, fr, n, false⟩) un84pas ty91par rfl rfl H wn rfl rfl hrw rfl (H.hp.ocells 0 rfl rfl) rfl (by omega) (by omega) rfl ?_; clear H; intro v Lo a w hrwn H; obtain ⟨A, xs, hrw, hcat, heq⟩ := bstep _ hrwn hcat heq
                have hal : A.length ≤ 2147483649 := by have := congrArg List.length heq; rw [List.length_append] at this; omega
                refine s_assign H wn rfl rfl ?_; clear H; intro a H; refine wl_nil ?_; refine hK65 _ _ ?_; clear hK65; refine c_seq (fun _ hK67 => ?_); refine c_seqR (fun _ hK68 => ?_); (iterate 2 refine s_move H wn rfl rfl ?_; clear H; intro a H); refine s_cmp H wn rfl rfl rfl rfl ?_; clear H; intro a H; refine s_move H wn rfl rfl ?_; clear H; intro a H; refine s_move H (wg H rfl rfl h66) rfl rfl ?_; clear H; intro a H; refine s_not H (wg H rfl rfl h66) rfl rfl ?_; clear H; intro a H; refine s_pick_t H wn rfl h66 rfl rfl ?_; clear H; intro a H; refine hK68 _ _ ?_; clear hK68; refine c_cond_f H rfl rfl ?_; refine c_skip ?_; refine hK67 _ _ ?_; clear hK67; refine c_seq (fun _ hK69 => ?_); refine c_seqR (fun _ hK70 => ?_); (iterate 2 refine s_move H wn rfl rfl ?_; clear H; intro a H); refine s_len un38l14c H wn rfl rfl ?_; clear H; intro a H; refine s_cmp H wn rfl rfl rfl rfl ?_; clear H; intro a H; refine hK70 _ _ ?_; clear hK70; refine c_cond_f H rfl h21 ?_; refine c_skip ?_; refine hK69 _ _ ?_; clear hK69; refine c_region ?_; refine s_move H wn rfl rfl ?_; clear H; intro a H; refine s_add _ H wn rfl rfl rfl (by omega) (by omega) rfl ?_; clear H; intro a H; (iterate 2 refine s_assign H wn rfl rfl ?_; clear H; intro a H); refine wl_nil ?_; refine hK9 _ _ ?_; clear hK9; refine c_region ?_; refine s_move H wn rfl rfl ?_; clear H; intro a H; refine s_add _ H wn rfl rfl rfl (by omega) (by omega) rfl ?_; clear H; intro a H; refine s_assign H wn rfl rfl ?_; clear H; intro a H; refine wl_nil ?_; refine loop_end ((n + 1, n + 1, false, A, v, xs, Lo)) (by exact (H.pickT (Pl := [_]) (Pl' := []) [] (by decide) rfl).sub ⟨rfl, rfl, rfl, rfl, rfl, trivial⟩) ?_ ?_
                · try dsimp only
                  first
                  | exact ⟨by omega, by omega, hrw, hcat, heq⟩
                  | exact ⟨by omega, by omega, hrw, hcat, by rw [restM_off (by omega)]; exact heq⟩
                first | omega | (dsimp only; omega)
            intro h68
            try have p68 := of_decide_eq_false h68
            first
            | (exfalso; omega)
            | (exact absurd h68 (by decide))
            | skip
              subst h68; rw [tailM_f (by omega)] at heq; refine c_skip ?_; refine hK65 _ _ ?_; clear hK65; refine c_seq (fun _ hK71 => ?_); refine c_seqR (fun _ hK72 => ?_); (iterate 2 refine s_move H wn rfl rfl ?_; clear H; intro a H); refine s_cmp H wn rfl rfl rfl rfl ?_; clear H; intro a H; refine s_move H wn rfl rfl ?_; clear H; intro a H; refine s_move H (wg H rfl rfl h66) rfl rfl ?_; clear H; intro a H; refine s_not H (wg H rfl rfl h66) rfl rfl ?_; clear H; intro a H; refine s_pick_t H wn rfl h66 rfl rfl ?_; clear H; intro a H; refine hK72 _ _ ?_; clear hK72; refine c_cond_t H rfl rfl ?_; refine c_region ?_; (iterate 3 refine s_move H wn rfl rfl ?_; clear H; intro a H); refine s_build sr91par [_, _, _, _] H wn rfl rfl rfl rfl ?_; clear H; intro a H; refine s_buildSlice un84pas ty91par [_, _, _, _] [_, _, _, _] H wn rfl rfl rfl rfl rfl (by intro i q h; match i, h with | 0, h => exact h | n + 1, h => simp at h) rfl rfl ?_; clear H; intro b86 a w hb86 H; refine s_append (Li := [_]) (Lo := Lo) (news := bkCells ⟨4, fr, n, false⟩) un84pas ty91par rfl rfl H wn rfl rfl hrw rfl (H.hp.ocells 0 rfl rfl) rfl (by omega) (by omega) rfl ?_; clear H; intro v Lo a w hrwn H; obtain ⟨A, xs, hrw, hcat, heq⟩ := bstep _ hrwn hcat heq
              have hal : A.length ≤ 2147483649 := by have := congrArg List.length heq; rw [List.length_append] at this; omega
              refine s_assign H wn rfl rfl ?_; clear H; intro a H; refine wl_nil ?_; refine hK71 _ _ ?_; clear hK71; refine c_seq (fun _ hK73 => ?_); refine c_seqR (fun _ hK74 => ?_); (iterate 2 refine s_move H wn rfl rfl ?_; clear H; intro a H); refine s_len un38l14c H wn rfl rfl ?_; clear H; intro a H; refine s_cmp H wn rfl rfl rfl rfl ?_; clear H; intro a H; refine hK74 _ _ ?_; clear hK74; refine c_cond_f H rfl h21 ?_; refine c_skip ?_; refine hK73 _ _ ?_; clear hK73; refine c_region ?_; refine s_move H wn rfl rfl ?_; clear H; intro a H; refine s_add _ H wn rfl rfl rfl (by omega) (by omega) rfl ?_; clear H; intro a H; (iterate 2 refine s_assign H wn rfl rfl ?_; clear H; intro a H); refine wl_nil ?_; refine hK9 _ _ ?_; clear hK9; refine c_region ?_; refine s_move H wn rfl rfl ?_; clear H; intro a H; refine s_add _ H wn rfl rfl rfl (by omega) (by omega) rfl ?_; clear H; intro a H; refine s_assign H wn rfl rfl ?_; clear H; intro a H; refine wl_nil ?_; refine loop_end ((n + 1, n + 1, false, A, v, xs, Lo)) (by exact (H.pickT (Pl := [_]) (Pl' := []) [] (by decide) rfl).sub ⟨rfl, rfl, rfl, rfl, rfl, trivial⟩) ?_ ?_
              · try dsimp only
                first
                | exact ⟨by omega, by omega, hrw, hcat, heq⟩
                | exact ⟨by omega, by omega, hrw, hcat, by rw [restM_off (by omega)]; exact heq⟩
              first | omega | (dsimp only; omega)
        intro h66
        try have p66 := of_decide_eq_false h66
        first
        | (exfalso; omega)
        | (exact absurd h66 (by decide))
        | skip
          rw [tailM_no (by omega)] at heq; refine s_skip H rfl rfl h66 rfl ?_; clear H; intro a H; refine s_pick_f H wn rfl h66 rfl rfl ?_; clear H; intro a H; refine hK66 _ _ ?_; clear hK66; refine c_cond_f H rfl rfl ?_; refine c_skip ?_; refine hK65 _ _ ?_; clear hK65; refine c_seq (fun _ hK75 => ?_); refine c_seqR (fun _ hK76 => ?_); (iterate 2 refine s_move H wn rfl rfl ?_; clear H; intro a H); refine s_cmp H wn rfl rfl rfl rfl ?_; clear H; intro a H; refine s_move H wn rfl rfl ?_; clear H; intro a H; (iterate 2 refine s_skip H rfl rfl h66 rfl ?_; clear H; intro a H); refine s_pick_f H wn rfl h66 rfl rfl ?_; clear H; intro a H; refine hK76 _ _ ?_; clear hK76; refine c_cond_f H rfl rfl ?_; refine c_skip ?_; refine hK75 _ _ ?_; clear hK75; refine c_seq (fun _ hK77 => ?_); refine c_seqR (fun _ hK78 => ?_); (iterate 2 refine s_move H wn rfl rfl ?_; clear H; intro a H); refine s_len un38l14c H wn rfl rfl ?_; clear H; intro a H; refine s_cmp H wn rfl rfl rfl rfl ?_; clear H; intro a H; refine hK78 _ _ ?_; clear hK78; refine c_cond_f H rfl h21 ?_; refine c_skip ?_; refine hK77 _ _ ?_; clear hK77; refine c_region ?_; refine s_move H wn rfl rfl ?_; clear H; intro a H; refine s_add _ H wn rfl rfl rfl (by omega) (by omega) rfl ?_; clear H; intro a H; (iterate 2 refine s_assign H wn rfl rfl ?_; clear H; intro a H); refine wl_nil ?_; refine hK9 _ _ ?_; clear hK9; refine c_region ?_; refine s_move H wn rfl rfl ?_; clear H; intro a H; refine s_add _ H wn rfl rfl rfl (by omega) (by omega) rfl ?_; clear H; intro a H; refine s_assign H wn rfl rfl ?_; clear H; intro a H; refine wl_nil ?_; refine loop_end ((n + 1, n + 1, false, A, v, xs, Lo)) (by exact (H).sub ⟨rfl, rfl, rfl, rfl, rfl, trivial⟩) ?_ ?_
          · try dsimp only
            first
            | exact ⟨by omega, by omega, hrw, hcat, heq⟩
            | exact ⟨by omega, by omega, hrw, hcat, by rw [restM_off (by omega)]; exact heq⟩
          first | omega | (dsimp only; omega)
  intro h14
  try have p14 := of_decide_eq_false h14
  first
  | (exfalso; omega)
  | (exact absurd h14 (by decide))
  | skip
    refine c_exit ?_; refine hK5 _ _ ?_; clear hK5; refine c_seq (fun _ hK79 => ?_); obtain ⟨G', hm, hrep, H⟩ := H.giveRow (Li := []) hrw (rows := A.map bkDat) (by simp) hcat; rw [restM_off (by omega), List.append_nil] at heq; rw [heq] at hrep; refine c_region ?_; refine s_move H wn rfl rfl ?_; clear H; intro a H; refine s_assign H wn rfl rfl ?_; clear H; intro a H; refine wl_nil ?_; refine hK79 _ _ ?_; clear hK79; refine c_ret ?_; refine (leave1 H Tryz.results41 (.cons (rv_tmp H rfl) .nil) ?_).1; exact H.hp.ret hrep
end
section
open Go.RowKit
theorem mdl_text (fr : Nat) (ks : List Int) : ∀ (m at_ : Nat) (so : Bool), mdl fr at_ so (List.replicate m 1 ++ ks) = mdl fr (at_ + m) (so || decide (¬ m = 0)) ks
  | 0, at_, so => by simp
  | m + 1, at_, so => by
    rw [List.replicate_succ, List.cons_append, mdl, if_neg (by decide), if_neg (by decide), mdl_text fr ks m]
    congr 1
    · omega
    simp
theorem tail_rest (fr at_ : Nat) (lo : Bool) (h : fr ≤ at_) : tailM fr at_ (!lo) = restL fr at_ lo := by
  unfold tailM restL
  by_cases e : fr = at_
  · rw [if_neg (show ¬ fr < at_ by omega), if_pos (show (fr : Int) = at_ by omega)]
  rw [if_pos (show fr < at_ by omega), if_neg (show ¬ (fr : Int) = at_ by omega)]
  cases lo <;> rfl
theorem mdl_blk : ∀ (l : List ItemD) (fr at_ : Nat) (lo : Bool), fr ≤ at_ → mdl fr at_ (!lo) (kindsS l) = blkS fr at_ lo l
  | [], fr, at_, lo, h => by
    rw [blkS, show kindsS [] = [] from rfl, mdl, tail_rest fr at_ lo h]
  | x :: l, fr, at_, lo, h => by
    have e : kindsS (x :: l) = List.replicate (n1 x) x.kind ++ kindsS l := by simp [kindsS]
    rw [e, blkS]
    by_cases h1 : x.kind = 1
    · rw [h1, if_neg (by decide), if_neg (by decide), mdl_text]; have ih := mdl_blk l fr (at_ + n1 x) (lo && decide (n1 x = 0)) (by omega)
      rw [show (!(lo && decide (n1 x = 0))) = ((!lo) || decide (¬ n1 x = 0)) by cases lo <;> simp] at ih
      rw [ih]
      simp
    have hn := n1_not h1; rw [hn, show List.replicate 1 x.kind = [x.kind] from rfl, List.cons_append, List.nil_append, mdl]
    by_cases h2 : x.kind = 2
    · rw [if_pos h2, if_pos h2]; have ih := mdl_blk l (at_ + 1) (at_ + 1) true (Nat.le_refl _); rw [Bool.not_true] at ih; rw [ih]; simp
    rw [if_neg h2, if_neg h2]
    by_cases h3 : x.kind = 7 ∨ x.kind = 3
    · rw [if_pos h3, if_pos h3, tail_rest fr at_ lo h]; have ih := mdl_blk l (at_ + 1) (at_ + 1) true (Nat.le_refl _); rw [Bool.not_true] at ih; rw [ih]; simp
    rw [if_neg h3, if_neg h3]; have ih := mdl_blk l fr (at_ + 1) (lo && decide (x.kind = 8)) (by omega)
    rw [show (!(lo && decide (x.kind = 8))) = ((!lo) || decide (¬ x.kind = 8)) by cases lo <;> simp] at ih
    rw [ih]; simp
theorem model_is (l : List ItemD) : mdl 0 0 false (kindsS l) = blkS 0 0 true l := mdl_blk l 0 0 true (Nat.le_refl _)
/-- Blocks that follow each other from s to e. -/
def Tile : Int → List BlkD → Int → Prop
  | s, [], e => s = e
  | s, b :: bs, e => b.from_ = s ∧ s < b.to ∧ Tile b.to bs e
def sumN : List ItemD → Nat
  | [] => 0
  | x :: l => n1 x + sumN l
def marksN (l : List BlkD) : Nat := l.countP (·.mark)
def parasN (l : List ItemD) : Nat := l.countP (fun x => decide (x.kind = 2))
end
end Go.Proofs.YtlnhhlighgaapaaGreat
