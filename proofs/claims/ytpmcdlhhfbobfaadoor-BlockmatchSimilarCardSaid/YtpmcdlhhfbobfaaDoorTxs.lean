/-
  Package segment: texts, Texts.
-/
import Derived.Test.YtpmcdlhhfbobfaaDoorSgc
namespace Go.Proofs.YtpmcdlhhfbobfaaDoor
open Go.RowKit
theorem en26txs : ∀ args w, (callFunc 26 args).run Tryd.prog w = .ok (.enter 26 args) w := enters Tryd.func26 rfl (by kernel_rfl)
theorem un9txs : Tryd.prog.underlying 9 = some .string := by kernel_rfl
theorem un110txs : Tryd.prog.underlying 110 = some (.slice 21) := by kernel_rfl
theorem un21txs : Tryd.prog.underlying 21 = some (.int .i32) := by kernel_rfl
theorem en40txs : ∀ args w, (callFunc 40 args).run Tryd.prog w = .ok (.enter 40 args) w := enters Tryd.func40 rfl (by kernel_rfl)
theorem ty21txs : Ty Tryd.prog 21 1 4 [.int .i32 0] false := ⟨by kernel_rfl, by kernel_rfl⟩
theorem un59txs : Tryd.prog.underlying 59 = some (.slice 9) := by kernel_rfl
theorem ty9txs : Ty Tryd.prog 9 1 16 [.string ⟨#[]⟩] false := ⟨by kernel_rfl, by kernel_rfl⟩
theorem un60txs : Tryd.prog.underlying 60 = some (.slice 66) := by kernel_rfl
theorem ty66txs : Ty Tryd.prog 66 3 24 [.int .i64 0, .int .i64 0, .int .i64 0] true := ⟨by kernel_rfl, by kernel_rfl⟩
theorem fd66_1txs : Fld Tryd.prog 66 1 1 := ⟨by kernel_rfl⟩
theorem ty3txs : Ty Tryd.prog 3 1 8 [.int .i64 0] false := ⟨by kernel_rfl, by kernel_rfl⟩
theorem fd66_2txs : Fld Tryd.prog 66 2 2 := ⟨by kernel_rfl⟩
theorem en39txs : ∀ args w, (callFunc 39 args).run Tryd.prog w = .ok (.enter 39 args) w := enters Tryd.func39 rfl (by kernel_rfl)
/-- Clusters that follow each other. -/
def IncC (N : Int) (l : List ClD) : Prop := ∀ i j (hi : i < l.length) (hj : j < l.length), i ≤ j → 0 ≤ l[i].from_ ∧ l[i].from_ < l[j].to ∧ l[j].to ≤ N
theorem tkF_in {N : Int} : ∀ (f : Nat) (l : List ClD), IncC N l → ∀ t ∈ tkF f l, 0 ≤ t.from_ ∧ t.from_ < t.to ∧ t.to ≤ N
  | 0, _, _, t, ht => by simp [tkF] at ht
  | f + 1, l, hl, t, ht => by
    rw [tkF] at ht
    split at ht
    · rename_i h
      have hb := nxt_bd h
      rcases List.mem_cons.1 ht with rfl | ht
      · exact hl 0 ((nxtS l).1 - 1) h (by omega) (Nat.zero_le _)
      refine tkF_in f (l.drop (nxtS l).1) (fun i j hi hj hij => ?_) t ht; rw [List.length_drop] at hi hj; have := hl ((nxtS l).1 + i) ((nxtS l).1 + j) (by omega) (by omega) (by omega)
      simpa only [List.getElem_drop] using this
    cases ht
theorem bdN_inc (s : ByteArray) : (bdN s).Pairwise (· < ·) := by
  have hi := clG_inc s.size (rnS s) 0 0 0 ⟨0, false, false, 0⟩; rw [show clG s.size (rnS s) 0 0 0 ⟨0, false, false, 0⟩ = clS s from rfl] at hi; rw [bdN, List.pairwise_cons]; refine ⟨fun z hz => ?_, hi.2⟩; obtain ⟨x, hx, rfl⟩ := List.mem_map.1 hz; exact (hi.1 x hx).2.1
theorem cluS_inc (s : ByteArray) : IncC (rnS s).length (cluS s) := by
  intro i j hi hj hij
  simp only [cluS, List.length_map, List.length_range] at hi hj
  have e1 : (cluS s)[i]'(by simpa [cluS] using hi) = cluD s i := by simp [cluS]
  have e2 : (cluS s)[j]'(by simpa [cluS] using hj) = cluD s j := by simp [cluS]
  rw [e1, e2]
  simp only [cluD, List.getD_eq_getElem?_getD, List.getElem?_eq_getElem (show i < (bdN s).length by omega), List.getElem?_eq_getElem (show j + 1 < (bdN s).length by omega), Option.getD_some]
  have h1 := List.pairwise_iff_getElem.1 (bdN_inc s) i (j + 1) (by omega) (by omega) (by omega); have h2 := (bdN_lt (show j + 1 < (bdN s).length by omega)).2
  omega
theorem tkS_in (s : ByteArray) : ∀ t ∈ tkS (cluS s), 0 ≤ t.from_ ∧ t.from_ < t.to ∧ t.to ≤ (rnS s).length := tkF_in _ _ (cluS_inc s)
/-- The text of a token. -/
def txF (s : ByteArray) (t : TkD) : ByteArray := runesBytes ((((rnS s).map fun x => (x.2 : Int)).drop t.from_.toNat).take (t.to.toNat - t.from_.toNat))
def txS (s : ByteArray) : List ByteArray := (tkS (cluS s)).map (txF s)
def strDat (s : ByteArray) : List Dat := [.lf (.string s)]
theorem str_row (G : GH) (s : ByteArray) : RepRow G (strDat s) [.string s] := by
  simp only [strDat, RepRow]
  exact ⟨_, _, rfl, by simp [RepV, Value.oneCell'], rfl⟩
theorem str_of {G : GH} {s : ByteArray} {cs : List Value} (h : RepRow G (strDat s) cs) : cs = [.string s] := by
  simp only [strDat, RepRow, RepV] at h
  obtain ⟨v1, _, rfl, ⟨rfl, -⟩, rfl⟩ := h
  rfl
theorem str_at {G : GH} {r : List ByteArray} {A : Option Addr} {n c k : Nat} (hv : RepV G (.sl 1 (r.map strDat)) (.slice A n c)) (hk : k < r.length) : ∃ b o, A = some ⟨b, o, none⟩ ∧ gcell G b (o + k * 1) = some (.string r[k]) := by
  obtain ⟨A', c', he, _, _, hg⟩ := hv.slice
  injection he with e1 e2 e3
  subst e1; obtain ⟨b, o, cs, h1, h2, h3, h4⟩ := hg k (strDat r[k]) (by simp [hk]); obtain rfl := str_of h4; exact ⟨b, o, h1, h3 0 _ rfl⟩
theorem str_cat (G : GH) : ∀ (B A : List ByteArray), RepCat G 1 (A.map strDat) (A.map Value.string) → RepCat G 1 ((A ++ B).map strDat) ((A ++ B).map Value.string)
  | [], A, h => by rw [List.append_nil]; exact h
  | x :: B, A, h => by
    have h2 := h.snoc (str_row G x) rfl; have h3 := str_cat G B (A ++ [x]) (by simpa using h2)
    simpa using h3
theorem strs_cat (G : GH) (A : List ByteArray) : RepCat G 1 (A.map strDat) (A.map Value.string) := str_cat G A [] RepCat.nil
def runDat (z : Int) : List Dat := [.lf (.int .i32 z)]
theorem run_row (G : GH) (z : Int) : RepRow G (runDat z) [.int .i32 z] := by
  simp only [runDat, RepRow]
  exact ⟨_, _, rfl, by simp [RepV, Value.oneCell'], rfl⟩
theorem run_of {G : GH} {s : Int} {cs : List Value} (h : RepRow G (runDat s) cs) : cs = [.int .i32 s] := by
  simp only [runDat, RepRow, RepV] at h
  obtain ⟨v1, _, rfl, ⟨rfl, -⟩, rfl⟩ := h
  rfl
theorem run_cat (G : GH) : ∀ (B A : List Int), RepCat G 1 (A.map runDat) (A.map (Value.int .i32)) → RepCat G 1 ((A ++ B).map runDat) ((A ++ B).map (Value.int .i32))
  | [], A, h => by rw [List.append_nil]; exact h
  | x :: B, A, h => by
    have h2 := h.snoc (run_row G x) rfl; have h3 := run_cat G B (A ++ [x]) (by simpa using h2)
    simpa using h3
theorem runs_cat (G : GH) (A : List Int) : RepCat G 1 (A.map runDat) (A.map (Value.int .i32)) := run_cat G A [] RepCat.nil
/-- A part of code points. -/
theorem runs_part {G : GH} {r : List Int} {A : Option Addr} {n c : Nat} (hv : RepV G (.sl 1 (r.map runDat)) (.slice A n c)) {lo hi : Nat} (h1 : lo < hi) (h2 : hi ≤ r.length) : ∃ b o, (if c = lo then A else A.map (·.add (lo * 1))) = some ⟨b, o, none⟩ ∧ ∀ j (h : j < ((r.drop lo).take (hi - lo)).length), gcell G b (o + j) = some (.int .i32 ((r.drop lo).take (hi - lo))[j]) := by
  have hp := hv.part lo hi (by omega) (by rw [List.length_map]; exact h2); obtain ⟨A', c', he, _, _, hg⟩ := hp.slice
  injection he with e1 e2 e3
  have hrow : ∀ j (h : j < ((r.drop lo).take (hi - lo)).length), ((List.map runDat r).drop lo |>.take (hi - lo))[j]? = some (runDat ((r.drop lo).take (hi - lo))[j]) := by
    intro j h; rw [← List.map_drop, ← List.map_take, List.getElem?_map, List.getElem?_eq_getElem h]; rfl
  obtain ⟨b, o, cs, g1, g2, g3, g4⟩ := hg 0 _ (hrow 0 (by simp; omega)); refine ⟨b, o, e1.trans g1, fun j h => ?_⟩; obtain ⟨b', o', cs', k1, k2, k3, k4⟩ := hg j _ (hrow j h)
  obtain ⟨rfl, rfl⟩ : b = b' ∧ o = o' := by rw [g1] at k1; simpa using k1
  obtain rfl := run_of k4; have := k3 0 _ rfl
  simpa using this
theorem ttrue_spec (G : GH) (w0 : World) (hG : Hold G w0) (x y z : Int) : Calls Tryd.prog 40 #[.agg #[vi x, vi y, vi z]] w0 (Ret w0 G fun u G' => u = .bool true) := by
  refine enter (N := 3) (T := [(0, _)]) (F := fun k => k < w0.heap.size) (L := []) Tryd.func40 rfl Tryd.ntmps40 rfl rfl hG (fun _ h => h) (fun _ h => by cases h) (fun _ h => by cases h) (fun _ h => by cases h) List.Pairwise.nil ?_; intro a H; refine c_seq (fun _ hK1 => ?_); refine c_region ?_; refine s_box (cs := [_, _, _]) H wn rfl rfl rfl ?_; clear H; intro b1 a w hb1 H; refine s_assign H wn rfl rfl ?_; clear H; intro a H; refine wl_nil ?_; refine hK1 _ _ ?_; clear hK1; refine c_seq (fun _ hK2 => ?_); refine c_region ?_; refine s_assign H wn rfl rfl ?_; clear H; intro a H; refine wl_nil ?_; refine hK2 _ _ ?_; clear hK2; refine c_ret ?_; refine (leave1 H Tryd.results40 (.cons (rv_tmp H rfl) .nil) ?_).1; exact H.hp.ret rfl
set_option maxHeartbeats 1000000 in
theorem stexts_spec {G0 : GH} (G : GH) (w0 : World) (hG : Hold G w0) (h0 : ∀ b o, G0 b = some o → G b = some o) (s : ByteArray) (hs : SOk G0 s) :
    Calls Tryd.prog 39 #[.string s, .func (.func 40) #[] #[]] w0 (Ret w0 G fun u G' => ∃ x, u = .tuple #[x, vi 0] ∧ RepV G' (.sl 1 ((txS s).map strDat)) x) := by
  have hml : maxLen = 9223372036854775807 := rfl; have hcl := clS_len s; have hsz := hs.size
  have hlc : (cluS s).length = (clS s).length := by simp [cluS, bdN]
  have htl := tkF_len (cluS s).length (cluS s); rw [show tkF (cluS s).length (cluS s) = tkS (cluS s) from rfl] at htl; have hrl : (rnS s).length ≤ s.size := rnF_len s s.size 0; refine enter (N := 43) (T := [(0, _), (1, _)]) (F := fun k => k < w0.heap.size) (L := []) Tryd.func39 rfl Tryd.ntmps39 rfl rfl hG (fun _ h => h) (fun _ h => by cases h) (fun _ h => by cases h) (fun _ h => by cases h) List.Pairwise.nil ?_; intro a H; refine c_seq (fun _ hK1 => ?_); refine c_region ?_; (iterate 2 refine s_assign H wn rfl rfl ?_; clear H; intro a H); refine wl_nil ?_; refine hK1 _ _ ?_; clear hK1; refine c_seq (fun _ hK2 => ?_); refine c_region ?_; refine s_move H wn rfl rfl ?_; clear H; intro a H; refine s_call en26txs H wn rfl (stokens_spec _ _ H.hp.ro h0 s hs) rfl ?_; clear H; rintro v14 G14 a w ⟨x14, rfl, htk⟩ hm14 H; obtain ⟨tA, tc, rfl, -, -, -⟩ := htk.slice; rw [List.length_map] at *; refine s_move H wn rfl rfl ?_; clear H; intro a H; (iterate 2 refine s_extract H wn rfl rfl rfl ?_; clear H; intro a H); (iterate 2 refine s_assign H wn rfl rfl ?_; clear H; intro a H); refine wl_nil ?_; refine hK2 _ _ ?_; clear hK2; refine c_seq (fun _ hK3 => ?_); refine c_seq (fun _ hK4 => ?_); refine c_region ?_; refine s_move H wn rfl rfl ?_; clear H; intro a H; refine s_cmp H wn rfl rfl rfl rfl ?_; clear H; intro a H; refine wl_nil ?_; refine hK4 _ _ ?_; clear hK4; refine c_cond H rfl ?_ ?_
  · intro h18
    try have p18 := of_decide_eq_true h18
    exact absurd h18 (by decide)
  intro h18
  try have p18 := of_decide_eq_false h18
  refine c_skip ?_; refine hK3 _ _ ?_; clear hK3; refine c_seq (fun _ hK5 => ?_); refine c_region ?_; refine s_move H wn rfl rfl ?_; clear H; intro a H; refine s_runes un9txs un110txs un21txs H wn rfl (by omega) rfl ?_; clear H; intro v21 Lo21 a w hrw21 H; rw [List.append_nil] at H; rw [show ((rnS s).map fun x => Value.int .i32 (x.2 : Int)) = ((rnS s).map fun x => (x.2 : Int)).map (Value.int .i32) by rw [List.map_map]; rfl] at hrw21; obtain ⟨G21, hm21, hrn, H⟩ := St.giveRow (Li := []) (Lo := Lo21) H hrw21 (rows := ((rnS s).map fun x => (x.2 : Int)).map runDat) (by simp) (runs_cat G14 _); obtain ⟨rA, rc, rfl, hrc, -, -⟩ := hrn.slice; rw [List.length_map, List.length_map] at *; refine s_assign H wn rfl rfl ?_; clear H; intro a H; refine wl_nil ?_; refine hK5 _ _ ?_; clear hK5; refine c_seq (fun _ hK6 => ?_); refine c_region ?_; refine s_assign H wn rfl rfl ?_; clear H; intro a H; refine wl_nil ?_; refine hK6 _ _ ?_; clear hK6; refine c_seq (fun _ hK7 => ?_); refine c_seq (fun _ hK8 => ?_); refine c_region ?_; refine s_move H wn rfl rfl ?_; clear H; intro a H; refine s_len un60txs H wn rfl rfl ?_; clear H; intro a H; refine s_move H wn rfl rfl ?_; clear H; intro a H; refine wl_nil ?_; refine hK8 _ _ ?_; clear hK8; refine c_block ?_; skip; refine c_loopS (ι := Nat × Value × OL × GH) (Tc := [(1, _), (8, _), (22, _), (23, _)]) (Lc := []) (fun (gh : Nat × Value × OL × GH) => [(9, gh.2.1), (24, vi gh.1)]) (fun (gh : Nat × Value × OL × GH) => [] ++ gh.2.2.1) (fun (gh : Nat × Value × OL × GH) => gh.2.2.2) (fun (gh : Nat × Value × OL × GH) => gh.1 ≤ (tkS (cluS s)).length ∧ IsRow 9 1 gh.2.1 gh.1 (((txS s).take gh.1).map Value.string) gh.2.2.1 ∧ (∀ b o, G21 b = some o → gh.2.2.2 b = some o)) (fun (gh : Nat × Value × OL × GH) => (tkS (cluS s)).length - gh.1) ((0, .slice none 0 0, [], G21)) (by exact (H).sub ⟨rfl, rfl, rfl, rfl, rfl, rfl, trivial⟩) ?_ ?_
  · exact ⟨Nat.zero_le _, IsRow.nil, fun _ _ h => h⟩
  clear H; intro gh a w hI H; obtain ⟨k, v, Lo, g⟩ := gh; dsimp only at hI H; obtain ⟨hk, hrw, hgm⟩ := hI; dsimp only [List.cons_append, List.nil_append, List.append_nil] at H; refine c_seq (fun _ hK9 => ?_); refine c_region ?_; refine s_cmp H wn rfl rfl rfl rfl ?_; clear H; intro a H; refine wl_nil ?_; refine hK9 _ _ ?_; clear hK9; refine c_seq (fun _ hK10 => ?_); refine c_cond H rfl ?_ ?_
  · intro h25
    try have p25 := of_decide_eq_true h25
    have hk1 : k < (tkS (cluS s)).length := by omega
    obtain ⟨b, o, rfl, hrow⟩ := tk_at ((htk.mono hm21).mono hgm) hk1; obtain ⟨t, ht⟩ : ∃ t, t = (tkS (cluS s))[k] := ⟨_, rfl⟩; have htb := tkS_in s t (by rw [ht]; exact List.getElem_mem _); rw [← ht] at hrow
    have hxt : (txS s)[k]? = some (txF s t) := by rw [txS, List.getElem?_map, List.getElem?_eq_getElem hk1, Option.map_some, ht]
    have hkx : k < (txS s).length := (List.getElem?_eq_some_iff.1 hxt).1; have hxt2 : (txS s)[k] = txF s t := (List.getElem?_eq_some_iff.1 hxt).2
    have hf0 : t.from_ = (t.from_.toNat : Int) := by omega
    have ht0 : t.to = (t.to.toNat : Int) := by omega
    refine c_skip ?_; refine hK10 _ _ ?_; clear hK10; refine c_seq (fun _ hK11 => ?_); refine c_block ?_; refine c_seq (fun _ hK12 => ?_); refine c_region ?_; refine s_index un60txs ty66txs _ H wn rfl rfl rfl (by first | assumption | omega) rfl ?_; clear H; intro a H; refine s_loada ty66txs (cs := [_, _, _]) H wn rfl rfl (fun j v hj => H.hp.gcell (hrow j v hj)) rfl ?_; clear H; intro a H; refine s_alloc ty66txs H wn rfl ?_; clear H; intro b11 a w hb11 H; refine s_store ty66txs 0 (vs := [_, _, _]) _ H wn rfl rfl rfl rfl rfl rfl rfl rfl ?_; clear H; intro w H; dsimp only [List.set, setRow] at H; refine wl_nil ?_; refine hK12 _ _ ?_; clear hK12; refine c_seq (fun _ hK13 => ?_); refine c_region ?_; refine s_move H wn rfl rfl ?_; clear H; intro a H; refine s_loada ty66txs (cs := [_, _, _]) H wn rfl rfl (H.hp.ocells 0 rfl rfl) rfl ?_; clear H; intro a H; refine s_callv0 H wn rfl rfl (callV_func (caps := []) (args := [_]) en40txs (ttrue_spec _ _ H.hp.ro _ _ _)) rfl ?_; clear H; rintro v30 G30 a w rfl hm30 H; refine wl_nil ?_; refine hK13 _ _ ?_; clear hK13; refine c_cond H rfl ?_ ?_
    · intro h30
      try have p30 := of_decide_eq_true h30
      refine c_region ?_; (iterate 2 refine s_move H wn rfl rfl ?_; clear H; intro a H); refine s_field fd66_1txs H wn rfl rfl ?_; clear H; intro a H; refine s_load ty3txs H wn rfl (H.hp.ocell 0 rfl rfl) rfl ?_; clear H; intro a H; refine s_field fd66_2txs H wn rfl rfl ?_; clear H; intro a H; refine s_load ty3txs H wn rfl (H.hp.ocell 0 rfl rfl) rfl ?_; clear H; intro a H; obtain ⟨pb, po, hpA, hpc⟩ := runs_part ((hrn.mono hgm).mono hm30) (show t.from_.toNat < t.to.toNat by omega) (show t.to.toNat ≤ ((rnS s).map fun x => (x.2 : Int)).length by rw [List.length_map]; omega); refine s_slice un110txs ty21txs t.from_.toNat t.to.toNat H wn rfl rfl rfl hf0 ht0 (by omega) (by omega) rfl ?_; clear H; intro a H; rw [hpA] at H; refine s_ofRunes _ un110txs un21txs un9txs H wn rfl (by simp; omega) (fun j hj => H.hp.gcell (hpc j hj)) rfl ?_; clear H; intro a H; skip; rw [show runesBytes ((((rnS s).map fun x => (x.2 : Int)).drop t.from_.toNat).take (t.to.toNat - t.from_.toNat)) = txF s t from rfl] at H; refine s_buildSlice un59txs ty9txs [_] [_] H wn rfl rfl rfl rfl rfl (by intro i q h; match i, h with | 0, h => exact h | n + 1, h => simp at h) rfl rfl ?_; clear H; intro b39 a w hb39 H; refine s_append (Li := [_, _]) (Lo := Lo) (news := [.string (txF s t)]) un59txs ty9txs rfl rfl H wn rfl rfl hrw rfl (H.hp.ocells 0 rfl rfl) rfl (by omega) (by omega) rfl ?_; clear H; intro v40 Lo40 a w hrw40 H
      have hrw40' : IsRow 9 1 v40 (k + 1) (((txS s).take (k + 1)).map Value.string) Lo40 := by
        rw [List.take_succ_eq_append_getElem hkx, hxt2, List.map_append]; exact hrw40
      refine s_assign H wn rfl rfl ?_; clear H; intro a H; refine wl_nil ?_; refine hK11 _ _ ?_; clear hK11; refine c_region ?_; refine s_add _ H wn rfl rfl rfl (by omega) (by omega) rfl ?_; clear H; intro a H; refine s_move H wn rfl rfl ?_; clear H; intro a H; refine wl_nil ?_; refine loop_end ((k + 1, v40, Lo40, G30)) (by exact (H.pickT (Pl := [_, _]) (Pl' := []) [] (by decide) rfl).sub ⟨rfl, rfl, rfl, rfl, rfl, rfl, trivial⟩) ?_ ?_
      · (try dsimp only); exact ⟨by omega, hrw40', fun b o h => hm30 b o (hgm b o h)⟩
      first | omega | (dsimp only; omega)
    intro h30
    try have p30 := of_decide_eq_false h30
    exact absurd h30 (by decide)
  intro h25
  try have p25 := of_decide_eq_false h25
  refine c_exit ?_; refine hK7 _ _ ?_; clear hK7; refine c_seq (fun _ hK14 => ?_); refine c_region ?_; refine s_move H wn rfl rfl ?_; clear H; intro a H; (iterate 2 refine s_assign H wn rfl rfl ?_; clear H; intro a H); refine wl_nil ?_; refine hK14 _ _ ?_; clear hK14; refine c_ret ?_
  have hlx : (txS s).length = (tkS (cluS s)).length := by simp [txS]
  obtain ⟨Gr, hmr, hrep, H⟩ := St.giveRow (Li := []) (Lo := Lo) H hrw (rows := (txS s).map strDat) (by rw [List.length_map]; omega) (by rw [List.take_of_length_le (by omega)]; exact strs_cat _ _); refine (leaveT H Tryd.results39 (.cons (rv_tmp H rfl) (.cons (rv_tmp H rfl) .nil)) ?_).1; exact H.hp.ret ⟨_, rfl, hrep⟩
theorem stextsA_spec {G0 : GH} (G : GH) (w0 : World) (hG : Hold G w0) (h0 : ∀ b o, G0 b = some o → G b = some o) (s : ByteArray) (hs : SOk G0 s) :
    Calls Tryd.prog 29 #[.string s] w0 (Ret w0 G fun u G' => ∃ x, u = .tuple #[x, vi 0] ∧ RepV G' (.sl 1 ((txS s).map strDat)) x) := by
  refine enter (N := 8) (T := [(0, _)]) (F := fun k => k < w0.heap.size) (L := []) Tryd.func29 rfl Tryd.ntmps29 rfl rfl hG (fun _ h => h) (fun _ h => by cases h) (fun _ h => by cases h) (fun _ h => by cases h) List.Pairwise.nil ?_; intro a H; refine c_seq (fun _ hK1 => ?_); refine c_region ?_; (iterate 2 refine s_assign H wn rfl rfl ?_; clear H; intro a H); refine wl_nil ?_; refine hK1 _ _ ?_; clear hK1; refine c_seq (fun _ hK2 => ?_); refine c_region ?_; refine s_move H wn rfl rfl ?_; clear H; intro a H; refine s_call en39txs H wn rfl (stexts_spec _ _ H.hp.ro h0 s hs) rfl ?_; clear H; rintro v5 G5 a w ⟨x5, rfl, hrep⟩ hm5 H; (iterate 2 refine s_extract H wn rfl rfl rfl ?_; clear H; intro a H); (iterate 2 refine s_assign H wn rfl rfl ?_; clear H; intro a H); refine wl_nil ?_; refine hK2 _ _ ?_; clear hK2; refine c_ret ?_; refine (leaveT H Tryd.results29 (.cons (rv_tmp H rfl) (.cons (rv_tmp H rfl) .nil)) ?_).1; exact H.hp.ret ⟨_, rfl, hrep⟩
end Go.Proofs.YtpmcdlhhfbobfaaDoor
