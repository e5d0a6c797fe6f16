/-
  Package blockmatch: tokens, Tokens.
-/
import Derived.Test.YtpmcdlhhfbobfaaDoorTxs
import Derived.Test.YtpmcdlhhfbobfaaDoorMp
import Derived.Test.YtpmcdlhhfbobfaaDoorSol2
namespace Go.Proofs.YtpmcdlhhfbobfaaDoor
open Go.RowKit
theorem en26bmt : ∀ args w, (callFunc 26 args).run Tryd.prog w = .ok (.enter 26 args) w := enters Tryd.func26 rfl (by kernel_rfl)
theorem en29bmt : ∀ args w, (callFunc 29 args).run Tryd.prog w = .ok (.enter 29 args) w := enters Tryd.func29 rfl (by kernel_rfl)
theorem un56bmt : Tryd.prog.underlying 56 = some (.map 9 3) := by kernel_rfl
theorem un9bmt : Tryd.prog.underlying 9 = some .string := by kernel_rfl
theorem un41bmt : Tryd.prog.underlying 41 = some (.slice 48) := by kernel_rfl
theorem ty48bmt : Ty Tryd.prog 48 2 16 [.int .i64 0, .int .i64 0] true := ⟨by kernel_rfl, by kernel_rfl⟩
theorem un60bmt : Tryd.prog.underlying 60 = some (.slice 66) := by kernel_rfl
theorem ty66bmt : Ty Tryd.prog 66 3 24 [.int .i64 0, .int .i64 0, .int .i64 0] true := ⟨by kernel_rfl, by kernel_rfl⟩
theorem un59bmt : Tryd.prog.underlying 59 = some (.slice 9) := by kernel_rfl
theorem ty9bmt : Ty Tryd.prog 9 1 16 [.string ⟨#[]⟩] false := ⟨by kernel_rfl, by kernel_rfl⟩
theorem fd66_2bmt : Fld Tryd.prog 66 2 2 := ⟨by kernel_rfl⟩
theorem ty3bmt : Ty Tryd.prog 3 1 8 [.int .i64 0] false := ⟨by kernel_rfl, by kernel_rfl⟩
theorem fd66_1bmt : Fld Tryd.prog 66 1 1 := ⟨by kernel_rfl⟩
theorem fd66_0bmt : Fld Tryd.prog 66 0 0 := ⟨by kernel_rfl⟩
theorem sr48bmt : Srt Tryd.prog 48 [(0, 1), (1, 1)] [.int .i64 0, .int .i64 0] := ⟨by kernel_rfl, by kernel_rfl⟩
/-- The map that numbers strings in the order in which they came. -/
def mapFrom : Nat → List ByteArray → List MapEntry
  | _, [] => []
  | i, k :: r => ⟨.string k, vi ((i + 1 : Nat) : Int), i⟩ :: mapFrom (i + 1) r
theorem mapFrom_len : ∀ (i : Nat) (l : List ByteArray), (mapFrom i l).length = l.length
  | _, [] => rfl
  | i, _ :: r => by simp [mapFrom, mapFrom_len (i + 1) r]
theorem mapFrom_snoc (x : ByteArray) : ∀ (i : Nat) (l : List ByteArray), mapFrom i (l ++ [x]) = mapFrom i l ++ [⟨.string x, vi ((i + l.length + 1 : Nat) : Int), i + l.length⟩]
  | _, [] => rfl
  | i, k :: r => by
    rw [List.cons_append, mapFrom, mapFrom_snoc x (i + 1) r, mapFrom, List.cons_append, List.length_cons, show i + 1 + r.length = i + (r.length + 1) by omega]
def keyI (s : ByteArray) : Nat → List ByteArray → Option Nat
  | _, [] => none
  | i, k :: r => if k = s then some (i + 1) else keyI s (i + 1) r
theorem findNow_map (s : ByteArray) : ∀ (i j : Nat) (l : List ByteArray), Instr.findNow .string (.string s) (mapFrom i l) j = some ((keyI s i l).map fun n => (j + (n - 1 - i), vi (n : Int)))
  | _, _, [] => rfl
  | i, j, k :: r => by
    have ih := findNow_map s (i + 1) (j + 1) r
    have hk : ∀ (l : List ByteArray) (i n : Nat), keyI s i l = some n → i < n := by
      intro l
      induction l with
      | nil => intro i n h; cases h
      | cons a t ih => intro i n h; rw [keyI] at h; split at h
                       · cases h; omega
                       have := ih _ _ h; omega
    by_cases e : k = s
    · subst e; have hb : (k == k) = true := (MapKept.bytes_beq k k).2 rfl
      simp only [mapFrom, Instr.findNow, Instr.sameNow, hb, keyI, if_pos]
      simp
    have hb : (s == k) = false := by
      cases h : (s == k) with
      | false => rfl
      | true => exact absurd ((MapKept.bytes_beq s k).1 h).symm e
    simp only [mapFrom, Instr.findNow, Instr.sameNow, hb, keyI, if_neg e, ih]
    cases h : keyI s (i + 1) r with
    | none => rfl
    | some n =>
      have := hk _ _ _ h
      simp only [Option.map_some, Option.some.injEq, Prod.mk.injEq, and_true]
      omega
def keyN (l : List ByteArray) (s : ByteArray) : Nat := (keyI s 0 l).getD (l.length + 1)
def keyK (l : List ByteArray) (s : ByteArray) : List ByteArray := if (keyI s 0 l).isSome then l else l ++ [s]
def wtK (t : TkD) : Int := if t.kind = 3 then 1 else min (t.to - t.from_) 1000
def tokStep (q : List TokD × List ByteArray) (x : TkD × ByteArray) : List TokD × List ByteArray := (q.1 ++ [⟨(keyN q.2 x.2 : Nat), wtK x.1⟩], keyK q.2 x.2)
def tokP (l : List (TkD × ByteArray)) (ks : List ByteArray) : List TokD × List ByteArray := l.foldl tokStep ([], ks)
theorem tokP_succ {l : List (TkD × ByteArray)} {k : Nat} (h : k < l.length) (ks : List ByteArray) : tokP (l.take (k + 1)) ks = tokStep (tokP (l.take k) ks) l[k] := by
  rw [tokP, List.take_succ_eq_append_getElem h, List.foldl_append]; rfl
theorem keyK_len (l : List ByteArray) (s : ByteArray) : (keyK l s).length ≤ l.length + 1 := by
  unfold keyK; split
  · omega
  simp
theorem tokP_len (l : List (TkD × ByteArray)) (ks : List ByteArray) : ∀ k, k ≤ l.length → (tokP (l.take k) ks).1.length = k ∧ (tokP (l.take k) ks).2.length ≤ ks.length + k
  | 0, _ => by simp [tokP]
  | k + 1, h => by
    have ih := tokP_len l ks k (by omega); have h2 := keyK_len (tokP (l.take k) ks).2 l[k].2; rw [tokP_succ (by omega)]
    simp only [tokStep, List.length_append, List.length_singleton]
    omega
/-- The tokens of a string with their texts. -/
def tkL (s : ByteArray) : List (TkD × ByteArray) := (tkS (cluS s)).map fun t => (t, txF s t)
def tokC (l : List TokD) : List Value := (l.map fun x => [vi x.key, vi x.weight]).flatten
theorem tok_cat2 (G : GH) : ∀ (B A : List TokD), RepCat G 2 (A.map TokD.dat) (tokC A) → RepCat G 2 ((A ++ B).map TokD.dat) (tokC (A ++ B))
  | [], A, h => by rw [List.append_nil]; exact h
  | x :: B, A, h => by
    have h2 := h.snoc (tok_row G x) rfl; have h3 := tok_cat2 G B (A ++ [x]) (by simpa [tokC] using h2)
    simpa using h3
theorem toks_cat2 (G : GH) (A : List TokD) : RepCat G 2 (A.map TokD.dat) (tokC A) := tok_cat2 G A [] RepCat.nil
abbrev bMap (b : Nat) (l : List ByteArray) : Nat × Obj := (b, .map (mapFrom 0 l).toArray l.length)
theorem map_push (l : List ByteArray) (x : ByteArray) : (mapFrom 0 l).toArray.push ⟨.string x, vi ((l.length + 1 : Nat) : Int), l.length⟩ = (mapFrom 0 (l ++ [x])).toArray := by
  rw [mapFrom_snoc, List.push_toArray, Nat.zero_add]
set_option maxHeartbeats 1000000 in
theorem btokens_spec {G0 G : GH} {w0 : World} {bm : Nat} (ks : List ByteArray) (hO : Owns G [bMap bm ks] w0) (h0 : ∀ b o, G0 b = some o → G b = some o) (s : ByteArray) (hs : SOk G0 s) (hz : s.size ≤ 2000) (hks : ks.length ≤ 1073741824) :
    Calls Tryd.prog 24 #[.string s, .map (some bm)] w0 (RetL w0 G [bMap bm ks] fun u G' L' => L' = [bMap bm (tokP (tkL s) ks).2] ∧ RepV G' (.sl 2 ((tokP (tkL s) ks).1.map TokD.dat)) u) := by
  have hml : maxLen = 9223372036854775807 := rfl; have hcl := clS_len s
  have hlc : (cluS s).length = (clS s).length := by simp [cluS, bdN]
  have htl := tkF_len (cluS s).length (cluS s); rw [show tkF (cluS s).length (cluS s) = tkS (cluS s) from rfl] at htl
  have hll : (tkL s).length = (tkS (cluS s)).length := by simp [tkL]
  have hrl : (rnS s).length ≤ s.size := rnF_len s s.size 0; refine enterL (N := 72) (T := [(0, _), (1, _)]) Tryd.func24 rfl Tryd.ntmps24 rfl rfl hO ?_; intro a H; refine c_seq (fun _ hK1 => ?_); refine c_region ?_; refine s_assign H wn rfl rfl ?_; clear H; intro a H; refine wl_nil ?_; refine hK1 _ _ ?_; clear hK1; refine c_seq (fun _ hK2 => ?_); refine c_region ?_; refine s_move H wn rfl rfl ?_; clear H; intro a H; refine s_call en26bmt H wn rfl (stokens_spec _ _ H.hp.ro h0 s hs) rfl ?_; clear H; rintro v17 G17 a w ⟨x17, rfl, htk⟩ hm17 H; obtain ⟨tA, tc, rfl, -, -, -⟩ := htk.slice; rw [List.length_map] at *; refine s_move H wn rfl rfl ?_; clear H; intro a H; (iterate 2 refine s_extract H wn rfl rfl rfl ?_; clear H; intro a H); (iterate 2 refine s_assign H wn rfl rfl ?_; clear H; intro a H); refine wl_nil ?_; refine hK2 _ _ ?_; clear hK2; refine c_seq (fun _ hK3 => ?_); refine c_region ?_; refine s_move H wn rfl rfl ?_; clear H; intro a H; refine s_call en29bmt H wn rfl (stextsA_spec _ _ H.hp.ro (fun b o h => hm17 b o (h0 b o h)) s hs) rfl ?_; clear H; rintro v22 G22 a w ⟨x22, rfl, htx⟩ hm22 H; obtain ⟨xA, xc, rfl, -, -, -⟩ := htx.slice; rw [List.length_map] at *
  have hlx : (txS s).length = (tkS (cluS s)).length := by simp [txS]
  refine s_move H wn rfl rfl ?_; clear H; intro a H; (iterate 2 refine s_extract H wn rfl rfl rfl ?_; clear H; intro a H); (iterate 2 refine s_assign H wn rfl rfl ?_; clear H; intro a H); refine wl_nil ?_; refine hK3 _ _ ?_; clear hK3; refine c_seq (fun _ hK4 => ?_); refine c_region ?_; refine s_assign H wn rfl rfl ?_; clear H; intro a H; refine wl_nil ?_; refine hK4 _ _ ?_; clear hK4; refine c_seq (fun _ hK5 => ?_); refine c_seq (fun _ hK6 => ?_); refine c_region ?_; refine s_move H wn rfl rfl ?_; clear H; intro a H; refine s_len un60bmt H wn rfl rfl ?_; clear H; intro a H; refine s_move H wn rfl rfl ?_; clear H; intro a H; refine wl_nil ?_; refine hK6 _ _ ?_; clear hK6; refine c_block ?_; skip; refine c_loopS (ι := Nat × Value × OL × GH) (Tc := [(1, _), (7, _), (25, _), (26, _)]) (Lc := []) (fun (gh : Nat × Value × OL × GH) => [(9, gh.2.1), (27, vi gh.1)]) (fun (gh : Nat × Value × OL × GH) => [bMap bm (tokP ((tkL s).take gh.1) ks).2] ++ gh.2.2.1) (fun (gh : Nat × Value × OL × GH) => gh.2.2.2) (fun (gh : Nat × Value × OL × GH) => gh.1 ≤ (tkL s).length ∧ IsRow 48 2 gh.2.1 gh.1 (tokC (tokP ((tkL s).take gh.1) ks).1) gh.2.2.1 ∧ (∀ b o, G22 b = some o → gh.2.2.2 b = some o)) (fun (gh : Nat × Value × OL × GH) => (tkL s).length - gh.1) ((0, .slice none 0 0, [], G22)) (by exact (H).sub ⟨rfl, rfl, rfl, rfl, rfl, rfl, trivial⟩) ?_ ?_
  · exact ⟨Nat.zero_le _, IsRow.nil, fun _ _ h => h⟩
  clear H; intro gh a w hI H; obtain ⟨k, v, Lo, g⟩ := gh; dsimp only at hI H; obtain ⟨hk, hrw, hgm⟩ := hI; dsimp only [List.cons_append, List.nil_append, List.append_nil] at H; refine c_seq (fun _ hK7 => ?_); refine c_region ?_; refine s_cmp H wn rfl rfl rfl rfl ?_; clear H; intro a H; refine wl_nil ?_; refine hK7 _ _ ?_; clear hK7; refine c_seq (fun _ hK8 => ?_); refine c_cond H rfl ?_ ?_
  · intro h28
    try have p28 := of_decide_eq_true h28
    have hk1 : k < (tkL s).length := by omega
    obtain ⟨b, o, rfl, hrow⟩ := tk_at ((htk.mono hm22).mono hgm) (show k < (tkS (cluS s)).length by omega); obtain ⟨t, ht⟩ : ∃ t, t = (tkS (cluS s))[k]'(by omega) := ⟨_, rfl⟩; have htb := tkS_in s t (by rw [ht]; exact List.getElem_mem _); rw [← ht] at hrow; obtain ⟨tb, to, rfl, hrx⟩ := str_at (htx.mono hgm) (show k < (txS s).length by omega)
    have hxt : (txS s)[k]'(by omega) = txF s t := by simp [txS, ht]
    rw [hxt] at hrx
    have hlk : (tkL s)[k] = (t, txF s t) := by simp [tkL, ht]
    obtain ⟨x, hx⟩ : ∃ x, x = txF s t := ⟨_, rfl⟩; rw [← hx] at hrx hlk; have hst := tokP_succ hk1 ks; rw [hlk] at hst; have hpl := tokP_len (tkL s) ks k (by omega); obtain ⟨kk, hkk⟩ : ∃ kk, kk = (tokP ((tkL s).take k) ks).2 := ⟨_, rfl⟩; rw [← hkk] at H hpl; obtain ⟨an, han⟩ : ∃ an, an = keyI x 0 kk := ⟨_, rfl⟩; have hfn := findNow_map x 0 0 kk; rw [← han] at hfn; obtain ⟨vA, vc, rfl, hvc1, hvc2⟩ := hrw.shape; refine c_skip ?_; refine hK8 _ _ ?_; clear hK8; refine c_seq (fun _ hK9 => ?_); refine c_block ?_; refine c_seq (fun _ hK10 => ?_); refine c_region ?_; refine s_move H wn rfl rfl ?_; clear H; intro a H; refine s_index un60bmt ty66bmt _ H wn rfl rfl rfl (by first | assumption | omega) rfl ?_; clear H; intro a H; refine s_loada ty66bmt (cs := [_, _, _]) H wn rfl rfl (fun j v hj => H.hp.gcell (hrow j v hj)) rfl ?_; clear H; intro a H; refine s_alloc ty66bmt H wn rfl ?_; clear H; intro b11 a w hb11 H; refine s_assign H wn rfl rfl ?_; clear H; intro a H; refine s_store ty66bmt 0 (vs := [_, _, _]) _ H wn rfl rfl rfl rfl rfl rfl rfl rfl ?_; clear H; intro w H; dsimp only [List.set, setRow] at H; refine wl_nil ?_; refine hK10 _ _ ?_; clear hK10; refine c_seq (fun _ hK11 => ?_); refine c_region ?_; (iterate 3 refine s_move H wn rfl rfl ?_; clear H; intro a H); refine s_index un59bmt ty9bmt _ H wn rfl rfl rfl (by first | assumption | omega) rfl ?_; clear H; intro a H; refine s_load ty9bmt H wn rfl (H.hp.gcell (by assumption)) rfl ?_; clear H; intro a H; refine s_lookup (i := 1) (zv := vi 0) _ un56bmt un9bmt (by kernel_rfl) H wn rfl rfl rfl (by trivial) (by simpa using hfn) rfl ?_; clear H; intro a H; refine s_move H wn rfl rfl ?_; clear H; intro a H; (iterate 2 refine s_extract H wn rfl rfl rfl ?_; clear H; intro a H); (iterate 2 refine s_assign H wn rfl rfl ?_; clear H; intro a H); refine wl_nil ?_; refine hK11 _ _ ?_; clear hK11; refine c_seq (fun _ hK12 => ?_); refine c_seq (fun _ hK13 => ?_); refine c_region ?_; refine s_move H wn rfl rfl ?_; clear H; intro a H; refine s_not H wn rfl rfl ?_; clear H; intro a H; refine wl_nil ?_; refine hK13 _ _ ?_; clear hK13; refine c_cond H rfl ?_ ?_
    · intro h42
      try have p42 := of_decide_eq_true h42
      obtain rfl : an = none := by
        cases an with
        | none => rfl
        | some n => simp [mapV] at h42
      have hst2 : kk ++ [x] = (tokP ((tkL s).take (k + 1)) ks).2 := by rw [hst]; simp [tokStep, keyK, ← hkk, ← han]
      have hst1 : (tokP ((tkL s).take (k + 1)) ks).1 = (tokP ((tkL s).take k) ks).1 ++ [⟨((tokP ((tkL s).take (k + 1)) ks).2.length : Int), wtK t⟩] := by rw [← hst2, hst]; simp [tokStep, keyN, ← hkk, ← han]
      refine c_seq (fun _ hK14 => ?_); refine c_region ?_; refine s_move H wn rfl rfl ?_; clear H; intro a H; refine s_lenMap (i := 1) un56bmt H wn rfl rfl rfl ?_; clear H; intro a H; rw [List.size_toArray, mapFrom_len] at H; refine s_add _ H wn rfl rfl rfl (by omega) (by omega) rfl ?_; clear H; intro a H; refine s_assign H wn rfl rfl ?_; clear H; intro a H; refine wl_nil ?_; refine hK14 _ _ ?_; clear hK14; refine c_region ?_; (iterate 3 refine s_move H wn rfl rfl ?_; clear H; intro a H); refine s_index un59bmt ty9bmt _ H wn rfl rfl rfl (by first | assumption | omega) rfl ?_; clear H; intro a H; refine s_load ty9bmt H wn rfl (H.hp.gcell (by assumption)) rfl ?_; clear H; intro a H; refine s_move H wn rfl rfl ?_; clear H; intro a H; rw [show ((kk.length : Int) + 1) = ((kk.length + 1 : Nat) : Int) from rfl] at H; refine s_mapNew (i := 1) un56bmt un9bmt H wn rfl rfl rfl rfl (by trivial) (by simpa using hfn) ?_; clear H; intro w H; rw [map_push, show kk.length + 1 = (kk ++ [x]).length by simp, hst2] at H; refine wl_nil ?_; refine hK12 _ _ ?_; clear hK12; refine c_seq (fun _ hK15 => ?_); refine c_seq (fun _ hK16 => ?_); refine c_region ?_; refine s_move H wn rfl rfl ?_; clear H; intro a H; refine s_len un41bmt H wn rfl rfl ?_; clear H; intro a H; refine s_cmp H wn rfl rfl rfl rfl ?_; clear H; intro a H; refine wl_nil ?_; refine hK16 _ _ ?_; clear hK16; refine c_cond H rfl ?_ ?_
      · intro h54
        try have p54 := of_decide_eq_true h54
        exfalso; omega
      intro h54
      try have p54 := of_decide_eq_false h54
      refine c_skip ?_; refine hK15 _ _ ?_; clear hK15; refine c_seq (fun _ hK17 => ?_); refine c_region ?_; refine s_field fd66_2bmt H wn rfl rfl ?_; clear H; intro a H; refine s_load ty3bmt H wn rfl (H.hp.ocell 0 rfl rfl) rfl ?_; clear H; intro a H; refine s_field fd66_1bmt H wn rfl rfl ?_; clear H; intro a H; refine s_load ty3bmt H wn rfl (H.hp.ocell 0 rfl rfl) rfl ?_; clear H; intro a H; refine s_sub _ H wn rfl rfl rfl (by omega) (by omega) rfl ?_; clear H; intro a H; refine s_min H wn rfl rfl rfl ?_; clear H; intro a H; refine s_assign H wn rfl rfl ?_; clear H; intro a H; refine wl_nil ?_; refine hK17 _ _ ?_; clear hK17; refine c_seq (fun _ hK18 => ?_); refine c_seq (fun _ hK19 => ?_); refine c_region ?_; refine s_field fd66_0bmt H wn rfl rfl ?_; clear H; intro a H; refine s_load ty3bmt H wn rfl (H.hp.ocell 0 rfl rfl) rfl ?_; clear H; intro a H; refine s_cmp H wn rfl rfl rfl rfl ?_; clear H; intro a H; refine wl_nil ?_; refine hK19 _ _ ?_; clear hK19; refine c_cond H rfl ?_ ?_
      · intro h63
        try have p63 := of_decide_eq_true h63
        have hwt : wtK t = 1 := if_pos (by simpa using h63); refine c_region ?_; refine s_assign H wn rfl rfl ?_; clear H; intro a H; refine wl_nil ?_; refine hK18 _ _ ?_; clear hK18; refine c_region ?_; (iterate 3 refine s_move H wn rfl rfl ?_; clear H; intro a H); refine s_build sr48bmt [_, _] H wn rfl rfl rfl rfl ?_; clear H; intro a H; refine s_buildSlice un41bmt ty48bmt [_, _] [_, _] H wn rfl rfl rfl rfl rfl (by intro i q h; match i, h with | 0, h => exact h | n + 1, h => simp at h) rfl rfl ?_; clear H; intro b68 a w hb68 H
        first
          | refine s_append (Li := [_, _, _]) (Lo := Lo) (news := [vi (kx : Int), vi 1]) un41bmt ty48bmt rfl rfl H wn rfl rfl hrw rfl (H.hp.ocells 0 rfl rfl) rfl (by omega) (by omega) rfl ?_
          | refine s_append (Li := [_, _, _]) (Lo := Lo) (news := [vi (kx : Int), vi (min (t.to - t.from_) 1000)]) un41bmt ty48bmt rfl rfl H wn rfl rfl hrw rfl (H.hp.ocells 0 rfl rfl) rfl (by omega) (by omega) rfl ?_
          | refine s_append (Li := [_, _, _]) (Lo := Lo) (news := [vi ((tokP ((tkL s).take (k + 1)) ks).2.length : Int), vi 1]) un41bmt ty48bmt rfl rfl H wn rfl rfl hrw rfl (H.hp.ocells 0 rfl rfl) rfl (by omega) (by omega) rfl ?_
          | refine s_append (Li := [_, _, _]) (Lo := Lo) (news := [vi ((tokP ((tkL s).take (k + 1)) ks).2.length : Int), vi (min (t.to - t.from_) 1000)]) un41bmt ty48bmt rfl rfl H wn rfl rfl hrw rfl (H.hp.ocells 0 rfl rfl) rfl (by omega) (by omega) rfl ?_
        clear H; intro v69 Lo69 a w hrw69 H
        have hrw69' : IsRow 48 2 v69 (k + 1) (tokC (tokP ((tkL s).take (k + 1)) ks).1) Lo69 := by
          rw [hst1, hwt, tokC, List.map_append, List.flatten_append]; exact hrw69
        refine s_assign H wn rfl rfl ?_; clear H; intro a H; refine wl_nil ?_; refine hK9 _ _ ?_; clear hK9; refine c_region ?_; refine s_add _ H wn rfl rfl rfl (by omega) (by omega) rfl ?_; clear H; intro a H; refine s_move H wn rfl rfl ?_; clear H; intro a H; refine wl_nil ?_; refine loop_end ((k + 1, v69, Lo69, g)) (by exact (H.pickT (Pl := [_, _, _]) (Pl' := [_]) [2] (by decide) rfl).sub ⟨rfl, rfl, rfl, rfl, rfl, rfl, trivial⟩) ?_ ?_
        · (try dsimp only); exact ⟨by omega, hrw69', hgm⟩
        first | omega | (dsimp only; omega)
      intro h63
      try have p63 := of_decide_eq_false h63
      have hwt : wtK t = min (t.to - t.from_) 1000 := if_neg (by simpa using h63); refine c_skip ?_; refine hK18 _ _ ?_; clear hK18; refine c_region ?_; (iterate 3 refine s_move H wn rfl rfl ?_; clear H; intro a H); refine s_build sr48bmt [_, _] H wn rfl rfl rfl rfl ?_; clear H; intro a H; refine s_buildSlice un41bmt ty48bmt [_, _] [_, _] H wn rfl rfl rfl rfl rfl (by intro i q h; match i, h with | 0, h => exact h | n + 1, h => simp at h) rfl rfl ?_; clear H; intro b68 a w hb68 H
      first
        | refine s_append (Li := [_, _, _]) (Lo := Lo) (news := [vi (kx : Int), vi 1]) un41bmt ty48bmt rfl rfl H wn rfl rfl hrw rfl (H.hp.ocells 0 rfl rfl) rfl (by omega) (by omega) rfl ?_
        | refine s_append (Li := [_, _, _]) (Lo := Lo) (news := [vi (kx : Int), vi (min (t.to - t.from_) 1000)]) un41bmt ty48bmt rfl rfl H wn rfl rfl hrw rfl (H.hp.ocells 0 rfl rfl) rfl (by omega) (by omega) rfl ?_
        | refine s_append (Li := [_, _, _]) (Lo := Lo) (news := [vi ((tokP ((tkL s).take (k + 1)) ks).2.length : Int), vi 1]) un41bmt ty48bmt rfl rfl H wn rfl rfl hrw rfl (H.hp.ocells 0 rfl rfl) rfl (by omega) (by omega) rfl ?_
        | refine s_append (Li := [_, _, _]) (Lo := Lo) (news := [vi ((tokP ((tkL s).take (k + 1)) ks).2.length : Int), vi (min (t.to - t.from_) 1000)]) un41bmt ty48bmt rfl rfl H wn rfl rfl hrw rfl (H.hp.ocells 0 rfl rfl) rfl (by omega) (by omega) rfl ?_
      clear H; intro v69 Lo69 a w hrw69 H
      have hrw69' : IsRow 48 2 v69 (k + 1) (tokC (tokP ((tkL s).take (k + 1)) ks).1) Lo69 := by
        rw [hst1, hwt, tokC, List.map_append, List.flatten_append]; exact hrw69
      refine s_assign H wn rfl rfl ?_; clear H; intro a H; refine wl_nil ?_; refine hK9 _ _ ?_; clear hK9; refine c_region ?_; refine s_add _ H wn rfl rfl rfl (by omega) (by omega) rfl ?_; clear H; intro a H; refine s_move H wn rfl rfl ?_; clear H; intro a H; refine wl_nil ?_; refine loop_end ((k + 1, v69, Lo69, g)) (by exact (H.pickT (Pl := [_, _, _]) (Pl' := [_]) [2] (by decide) rfl).sub ⟨rfl, rfl, rfl, rfl, rfl, rfl, trivial⟩) ?_ ?_
      · (try dsimp only); exact ⟨by omega, hrw69', hgm⟩
      first | omega | (dsimp only; omega)
    intro h42
    try have p42 := of_decide_eq_false h42
    obtain ⟨kx, rfl⟩ : ∃ n, an = some n := by
      cases an with
      | none => simp [mapV] at h42
      | some n => exact ⟨n, rfl⟩
    have hst2 : kk = (tokP ((tkL s).take (k + 1)) ks).2 := by rw [hst]; simp [tokStep, keyK, ← hkk, ← han]
    have hst1 : (tokP ((tkL s).take (k + 1)) ks).1 = (tokP ((tkL s).take k) ks).1 ++ [⟨(kx : Int), wtK t⟩] := by rw [hst]; simp [tokStep, keyN, ← hkk, ← han]
    dsimp only [mapV, Option.map_some] at H; rw [hst2] at H; refine c_skip ?_; refine hK12 _ _ ?_; clear hK12; refine c_seq (fun _ hK20 => ?_); refine c_seq (fun _ hK21 => ?_); refine c_region ?_; refine s_move H wn rfl rfl ?_; clear H; intro a H; refine s_len un41bmt H wn rfl rfl ?_; clear H; intro a H; refine s_cmp H wn rfl rfl rfl rfl ?_; clear H; intro a H; refine wl_nil ?_; refine hK21 _ _ ?_; clear hK21; refine c_cond H rfl ?_ ?_
    · intro h54
      try have p54 := of_decide_eq_true h54
      exfalso; omega
    intro h54
    try have p54 := of_decide_eq_false h54
    refine c_skip ?_; refine hK20 _ _ ?_; clear hK20; refine c_seq (fun _ hK22 => ?_); refine c_region ?_; refine s_field fd66_2bmt H wn rfl rfl ?_; clear H; intro a H; refine s_load ty3bmt H wn rfl (H.hp.ocell 0 rfl rfl) rfl ?_; clear H; intro a H; refine s_field fd66_1bmt H wn rfl rfl ?_; clear H; intro a H; refine s_load ty3bmt H wn rfl (H.hp.ocell 0 rfl rfl) rfl ?_; clear H; intro a H; refine s_sub _ H wn rfl rfl rfl (by omega) (by omega) rfl ?_; clear H; intro a H; refine s_min H wn rfl rfl rfl ?_; clear H; intro a H; refine s_assign H wn rfl rfl ?_; clear H; intro a H; refine wl_nil ?_; refine hK22 _ _ ?_; clear hK22; refine c_seq (fun _ hK23 => ?_); refine c_seq (fun _ hK24 => ?_); refine c_region ?_; refine s_field fd66_0bmt H wn rfl rfl ?_; clear H; intro a H; refine s_load ty3bmt H wn rfl (H.hp.ocell 0 rfl rfl) rfl ?_; clear H; intro a H; refine s_cmp H wn rfl rfl rfl rfl ?_; clear H; intro a H; refine wl_nil ?_; refine hK24 _ _ ?_; clear hK24; refine c_cond H rfl ?_ ?_
    · intro h63
      try have p63 := of_decide_eq_true h63
      have hwt : wtK t = 1 := if_pos (by simpa using h63); refine c_region ?_; refine s_assign H wn rfl rfl ?_; clear H; intro a H; refine wl_nil ?_; refine hK23 _ _ ?_; clear hK23; refine c_region ?_; (iterate 3 refine s_move H wn rfl rfl ?_; clear H; intro a H); refine s_build sr48bmt [_, _] H wn rfl rfl rfl rfl ?_; clear H; intro a H; refine s_buildSlice un41bmt ty48bmt [_, _] [_, _] H wn rfl rfl rfl rfl rfl (by intro i q h; match i, h with | 0, h => exact h | n + 1, h => simp at h) rfl rfl ?_; clear H; intro b68 a w hb68 H
      first
        | refine s_append (Li := [_, _, _]) (Lo := Lo) (news := [vi (kx : Int), vi 1]) un41bmt ty48bmt rfl rfl H wn rfl rfl hrw rfl (H.hp.ocells 0 rfl rfl) rfl (by omega) (by omega) rfl ?_
        | refine s_append (Li := [_, _, _]) (Lo := Lo) (news := [vi (kx : Int), vi (min (t.to - t.from_) 1000)]) un41bmt ty48bmt rfl rfl H wn rfl rfl hrw rfl (H.hp.ocells 0 rfl rfl) rfl (by omega) (by omega) rfl ?_
        | refine s_append (Li := [_, _, _]) (Lo := Lo) (news := [vi ((tokP ((tkL s).take (k + 1)) ks).2.length : Int), vi 1]) un41bmt ty48bmt rfl rfl H wn rfl rfl hrw rfl (H.hp.ocells 0 rfl rfl) rfl (by omega) (by omega) rfl ?_
        | refine s_append (Li := [_, _, _]) (Lo := Lo) (news := [vi ((tokP ((tkL s).take (k + 1)) ks).2.length : Int), vi (min (t.to - t.from_) 1000)]) un41bmt ty48bmt rfl rfl H wn rfl rfl hrw rfl (H.hp.ocells 0 rfl rfl) rfl (by omega) (by omega) rfl ?_
      clear H; intro v69 Lo69 a w hrw69 H
      have hrw69' : IsRow 48 2 v69 (k + 1) (tokC (tokP ((tkL s).take (k + 1)) ks).1) Lo69 := by
        rw [hst1, hwt, tokC, List.map_append, List.flatten_append]; exact hrw69
      refine s_assign H wn rfl rfl ?_; clear H; intro a H; refine wl_nil ?_; refine hK9 _ _ ?_; clear hK9; refine c_region ?_; refine s_add _ H wn rfl rfl rfl (by omega) (by omega) rfl ?_; clear H; intro a H; refine s_move H wn rfl rfl ?_; clear H; intro a H; refine wl_nil ?_; refine loop_end ((k + 1, v69, Lo69, g)) (by exact (H.pickT (Pl := [_, _, _]) (Pl' := [_]) [2] (by decide) rfl).sub ⟨rfl, rfl, rfl, rfl, rfl, rfl, trivial⟩) ?_ ?_
      · (try dsimp only); exact ⟨by omega, hrw69', hgm⟩
      first | omega | (dsimp only; omega)
    intro h63
    try have p63 := of_decide_eq_false h63
    have hwt : wtK t = min (t.to - t.from_) 1000 := if_neg (by simpa using h63); refine c_skip ?_; refine hK23 _ _ ?_; clear hK23; refine c_region ?_; (iterate 3 refine s_move H wn rfl rfl ?_; clear H; intro a H); refine s_build sr48bmt [_, _] H wn rfl rfl rfl rfl ?_; clear H; intro a H; refine s_buildSlice un41bmt ty48bmt [_, _] [_, _] H wn rfl rfl rfl rfl rfl (by intro i q h; match i, h with | 0, h => exact h | n + 1, h => simp at h) rfl rfl ?_; clear H; intro b68 a w hb68 H
    first
      | refine s_append (Li := [_, _, _]) (Lo := Lo) (news := [vi (kx : Int), vi 1]) un41bmt ty48bmt rfl rfl H wn rfl rfl hrw rfl (H.hp.ocells 0 rfl rfl) rfl (by omega) (by omega) rfl ?_
      | refine s_append (Li := [_, _, _]) (Lo := Lo) (news := [vi (kx : Int), vi (min (t.to - t.from_) 1000)]) un41bmt ty48bmt rfl rfl H wn rfl rfl hrw rfl (H.hp.ocells 0 rfl rfl) rfl (by omega) (by omega) rfl ?_
      | refine s_append (Li := [_, _, _]) (Lo := Lo) (news := [vi ((tokP ((tkL s).take (k + 1)) ks).2.length : Int), vi 1]) un41bmt ty48bmt rfl rfl H wn rfl rfl hrw rfl (H.hp.ocells 0 rfl rfl) rfl (by omega) (by omega) rfl ?_
      | refine s_append (Li := [_, _, _]) (Lo := Lo) (news := [vi ((tokP ((tkL s).take (k + 1)) ks).2.length : Int), vi (min (t.to - t.from_) 1000)]) un41bmt ty48bmt rfl rfl H wn rfl rfl hrw rfl (H.hp.ocells 0 rfl rfl) rfl (by omega) (by omega) rfl ?_
    clear H; intro v69 Lo69 a w hrw69 H
    have hrw69' : IsRow 48 2 v69 (k + 1) (tokC (tokP ((tkL s).take (k + 1)) ks).1) Lo69 := by
      rw [hst1, hwt, tokC, List.map_append, List.flatten_append]; exact hrw69
    refine s_assign H wn rfl rfl ?_; clear H; intro a H; refine wl_nil ?_; refine hK9 _ _ ?_; clear hK9; refine c_region ?_; refine s_add _ H wn rfl rfl rfl (by omega) (by omega) rfl ?_; clear H; intro a H; refine s_move H wn rfl rfl ?_; clear H; intro a H; refine wl_nil ?_; refine loop_end ((k + 1, v69, Lo69, g)) (by exact (H.pickT (Pl := [_, _, _]) (Pl' := [_]) [2] (by decide) rfl).sub ⟨rfl, rfl, rfl, rfl, rfl, rfl, trivial⟩) ?_ ?_
    · (try dsimp only); exact ⟨by omega, hrw69', hgm⟩
    first | omega | (dsimp only; omega)
  intro h28
  try have p28 := of_decide_eq_false h28
  refine c_exit ?_; refine hK5 _ _ ?_; clear hK5; refine c_seq (fun _ hK25 => ?_); refine c_region ?_; refine s_move H wn rfl rfl ?_; clear H; intro a H; refine s_assign H wn rfl rfl ?_; clear H; intro a H; refine wl_nil ?_; refine hK25 _ _ ?_; clear hK25; refine c_ret ?_; obtain ⟨Gr, hmr, hrep, H⟩ := St.giveRow (Li := [_]) (Lo := Lo) H hrw (rows := (tokP (tkL s) ks).1.map TokD.dat) (by rw [List.length_map]; have := (tokP_len (tkL s) ks _ (Nat.le_refl _)).1; rw [List.take_length] at this; omega) (by rw [List.take_of_length_le (by omega)]; exact toks_cat2 _ _); rw [List.take_of_length_le (by omega)] at H; refine (leave1 H Tryd.results24 (.cons (rv_tmp H rfl) .nil) ?_).1; exact H.hp.retL ⟨rfl, hrep⟩
end Go.Proofs.YtpmcdlhhfbobfaaDoor
