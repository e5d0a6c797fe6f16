/-
  The examples of layer 14.
-/
import Derived.Test.YtbfdhlakbdadhaaSec
import Derived.Test.YtbfdhlakbdadhaaKt
namespace Go.Proofs.Ytbfdhlakbdadhaa
open Go.RowKit
theorem ty47k14 : Ty Try.prog 47 11 176 [.int .i64 0, .int .i64 0, .int .i64 0, .string ⟨#[]⟩, .slice none 0 0, .int .i64 0, .int .i64 0, .slice none 0 0, .slice none 0 0, .slice none 0 0, .slice none 0 0] true := ⟨by kernel_rfl, by kernel_rfl⟩
theorem sr47k14 : Srt Try.prog 47 [(0, 1), (1, 1), (2, 1), (3, 1), (4, 5), (9, 1), (10, 1)] [.int .i64 0, .int .i64 0, .int .i64 0, .string ⟨#[]⟩, .slice none 0 0, .int .i64 0, .int .i64 0, .slice none 0 0, .slice none 0 0, .slice none 0 0, .slice none 0 0] := ⟨by kernel_rfl, by kernel_rfl⟩
theorem un28k14 : Try.prog.underlying 28 = some (.slice 47) := by kernel_rfl
theorem sr104k14 : Srt Try.prog 104 [(0, 1), (1, 5), (6, 1)] [.int .i64 0, .slice none 0 0, .int .i64 0, .int .i64 0, .slice none 0 0, .slice none 0 0, .slice none 0 0] := ⟨by kernel_rfl, by kernel_rfl⟩
theorem un105k14 : Try.prog.underlying 105 = some (.slice 104) := by kernel_rfl
theorem ty104k14 : Ty Try.prog 104 7 120 [.int .i64 0, .slice none 0 0, .int .i64 0, .int .i64 0, .slice none 0 0, .slice none 0 0, .slice none 0 0] true := ⟨by kernel_rfl, by kernel_rfl⟩
theorem sr107k14 : Srt Try.prog 107 [(0, 5), (5, 1)] [.slice none 0 0, .int .i64 0, .int .i64 0, .slice none 0 0, .slice none 0 0, .slice none 0 0] := ⟨by kernel_rfl, by kernel_rfl⟩
theorem un45k14 : Try.prog.underlying 45 = some (.slice 107) := by kernel_rfl
theorem ty107k14 : Ty Try.prog 107 6 112 [.slice none 0 0, .int .i64 0, .int .i64 0, .slice none 0 0, .slice none 0 0, .slice none 0 0] true := ⟨by kernel_rfl, by kernel_rfl⟩
theorem en27k14 : ∀ args w, (callFunc 27 args).run Try.prog w = .ok (.enter 27 args) w := enters Try.func27 rfl (by kernel_rfl)
theorem txt_97 : validS ⟨#[97]⟩ = true ∧ cntFrom ⟨#[97]⟩ 0 = 1 := by
  have d0 : decS ⟨#[97]⟩ 0 = (97, 1, true) := by decide
  have e1 : firstS ⟨#[97]⟩ 1 = -1 := by rw [firstS, dif_neg (by decide)]
  have e0 : firstS ⟨#[97]⟩ 0 = -1 := by rw [firstS, dif_pos (by decide), dif_pos (by rw [d0]), d0]; exact e1
  have c1 : cntFrom ⟨#[97]⟩ 1 = 0 := by rw [cntFrom, if_neg (by decide)]
  have c0 : cntFrom ⟨#[97]⟩ 0 = 1 := by rw [cntFrom, if_pos (by decide), c1]; decide
  exact ⟨by unfold validS; rw [e0]; decide, c0⟩
def ex97 : ItemD := .mk 1 0 0 ⟨#[97]⟩ hd0 [] []
theorem u97 : unitsS ex97 = 1 ∧ unitsE ex97 = 0 := by simp [unitsS, unitsE, ex97, ItemD.kind, ItemD.text, cntS, utfS, txt_97.1, txt_97.2]
theorem n97 : n1 ex97 = 1 := by simp [n1, u97.1, u97.2]
theorem z97 : szR ex97.dat = 12 := by
  have h := zItem_eq ex97
  have h0 : zHead hd0 = 5 := by simp [zHead_eq, szRs]
  have s1 : ex97.text.size = 1 := rfl
  have g1 : ex97.head = hd0 := rfl
  have f1 : zItems ex97.flow = 0 := rfl
  have r1 : zRows ex97.rows = 0 := rfl
  rw [g1, h0, s1, f1, r1] at h; exact h
theorem txt_98 : validS ⟨#[98]⟩ = true ∧ cntFrom ⟨#[98]⟩ 0 = 1 := by
  have d0 : decS ⟨#[98]⟩ 0 = (98, 1, true) := by decide
  have e1 : firstS ⟨#[98]⟩ 1 = -1 := by rw [firstS, dif_neg (by decide)]
  have e0 : firstS ⟨#[98]⟩ 0 = -1 := by rw [firstS, dif_pos (by decide), dif_pos (by rw [d0]), d0]; exact e1
  have c1 : cntFrom ⟨#[98]⟩ 1 = 0 := by rw [cntFrom, if_neg (by decide)]
  have c0 : cntFrom ⟨#[98]⟩ 0 = 1 := by rw [cntFrom, if_pos (by decide), c1]; decide
  exact ⟨by unfold validS; rw [e0]; decide, c0⟩
def ex98 : ItemD := .mk 1 0 0 ⟨#[98]⟩ hd0 [] []
theorem u98 : unitsS ex98 = 1 ∧ unitsE ex98 = 0 := by simp [unitsS, unitsE, ex98, ItemD.kind, ItemD.text, cntS, utfS, txt_98.1, txt_98.2]
theorem n98 : n1 ex98 = 1 := by simp [n1, u98.1, u98.2]
theorem z98 : szR ex98.dat = 12 := by
  have h := zItem_eq ex98
  have h0 : zHead hd0 = 5 := by simp [zHead_eq, szRs]
  have s1 : ex98.text.size = 1 := rfl
  have g1 : ex98.head = hd0 := rfl
  have f1 : zItems ex98.flow = 0 := rfl
  have r1 : zRows ex98.rows = 0 := rfl
  rw [g1, h0, s1, f1, r1] at h; exact h
theorem txt_99 : validS ⟨#[99]⟩ = true ∧ cntFrom ⟨#[99]⟩ 0 = 1 := by
  have d0 : decS ⟨#[99]⟩ 0 = (99, 1, true) := by decide
  have e1 : firstS ⟨#[99]⟩ 1 = -1 := by rw [firstS, dif_neg (by decide)]
  have e0 : firstS ⟨#[99]⟩ 0 = -1 := by rw [firstS, dif_pos (by decide), dif_pos (by rw [d0]), d0]; exact e1
  have c1 : cntFrom ⟨#[99]⟩ 1 = 0 := by rw [cntFrom, if_neg (by decide)]
  have c0 : cntFrom ⟨#[99]⟩ 0 = 1 := by rw [cntFrom, if_pos (by decide), c1]; decide
  exact ⟨by unfold validS; rw [e0]; decide, c0⟩
def ex99 : ItemD := .mk 1 0 0 ⟨#[99]⟩ hd0 [] []
theorem u99 : unitsS ex99 = 1 ∧ unitsE ex99 = 0 := by simp [unitsS, unitsE, ex99, ItemD.kind, ItemD.text, cntS, utfS, txt_99.1, txt_99.2]
theorem n99 : n1 ex99 = 1 := by simp [n1, u99.1, u99.2]
theorem z99 : szR ex99.dat = 12 := by
  have h := zItem_eq ex99
  have h0 : zHead hd0 = 5 := by simp [zHead_eq, szRs]
  have s1 : ex99.text.size = 1 := rfl
  have g1 : ex99.head = hd0 := rfl
  have f1 : zItems ex99.flow = 0 := rfl
  have r1 : zRows ex99.rows = 0 := rfl
  rw [g1, h0, s1, f1, r1] at h; exact h
theorem txt_100 : validS ⟨#[100]⟩ = true ∧ cntFrom ⟨#[100]⟩ 0 = 1 := by
  have d0 : decS ⟨#[100]⟩ 0 = (100, 1, true) := by decide
  have e1 : firstS ⟨#[100]⟩ 1 = -1 := by rw [firstS, dif_neg (by decide)]
  have e0 : firstS ⟨#[100]⟩ 0 = -1 := by rw [firstS, dif_pos (by decide), dif_pos (by rw [d0]), d0]; exact e1
  have c1 : cntFrom ⟨#[100]⟩ 1 = 0 := by rw [cntFrom, if_neg (by decide)]
  have c0 : cntFrom ⟨#[100]⟩ 0 = 1 := by rw [cntFrom, if_pos (by decide), c1]; decide
  exact ⟨by unfold validS; rw [e0]; decide, c0⟩
def ex100 : ItemD := .mk 1 0 0 ⟨#[100]⟩ hd0 [] []
theorem u100 : unitsS ex100 = 1 ∧ unitsE ex100 = 0 := by simp [unitsS, unitsE, ex100, ItemD.kind, ItemD.text, cntS, utfS, txt_100.1, txt_100.2]
theorem n100 : n1 ex100 = 1 := by simp [n1, u100.1, u100.2]
theorem z100 : szR ex100.dat = 12 := by
  have h := zItem_eq ex100
  have h0 : zHead hd0 = 5 := by simp [zHead_eq, szRs]
  have s1 : ex100.text.size = 1 := rfl
  have g1 : ex100.head = hd0 := rfl
  have f1 : zItems ex100.flow = 0 := rfl
  have r1 : zRows ex100.rows = 0 := rfl
  rw [g1, h0, s1, f1, r1] at h; exact h
def cl0 : CellD := .mk 0 hd0 []
def rw0 : RowD := .mk hd0 [cl0]
def exT : ItemD := .mk 7 0 0 ⟨#[]⟩ hd0 [] [rw0]
def exK : ItemD := .mk 8 0 0 ⟨#[]⟩ hd0 [] []
def exS : ItemD := .mk 3 0 0 ⟨#[]⟩ hd0 [] []
theorem uT : unitsS exT = 1 ∧ unitsE exT = 0 := by simp [unitsS, unitsE, exT, ItemD.kind]
theorem uK : unitsS exK = 1 ∧ unitsE exK = 0 := by simp [unitsS, unitsE, exK, ItemD.kind]
theorem uS : unitsS exS = 1 ∧ unitsE exS = 0 := by simp [unitsS, unitsE, exS, ItemD.kind]
theorem nT : n1 exT = 1 := by simp [n1, uT.1, uT.2]
theorem nK : n1 exK = 1 := by simp [n1, uK.1, uK.2]
theorem nS : n1 exS = 1 := by simp [n1, uS.1, uS.2]
def ex14 : List ItemD := [exA, exP, ex99, exT, exK, exT, ex100]
def exSec : List ItemD := [ex97, exS, ex98]
theorem h00 : zHead hd0 = 5 := by simp [zHead_eq, szRs]
theorem zA : szR exA.dat = 13 := by
  have h := zItem_eq exA
  rw [show exA.head = hd0 from rfl, h00, show exA.text.size = 2 from rfl, show zItems exA.flow = 0 from rfl, show zRows exA.rows = 0 from rfl] at h; exact h
theorem zP : szR exP.dat = 11 := by
  have h := zItem_eq exP
  rw [show exP.head = hd0 from rfl, h00, show exP.text.size = 0 from rfl, show zItems exP.flow = 0 from rfl, show zRows exP.rows = 0 from rfl] at h; exact h
theorem zK : szR exK.dat = 11 := by
  have h := zItem_eq exK
  rw [show exK.head = hd0 from rfl, h00, show exK.text.size = 0 from rfl, show zItems exK.flow = 0 from rfl, show zRows exK.rows = 0 from rfl] at h; exact h
theorem zS : szR exS.dat = 11 := by
  have h := zItem_eq exS
  rw [show exS.head = hd0 from rfl, h00, show exS.text.size = 0 from rfl, show zItems exS.flow = 0 from rfl, show zRows exS.rows = 0 from rfl] at h; exact h
theorem zT : szR exT.dat = 26 := by
  have h := zItem_eq exT
  have h1 := zRow_eq rw0
  have h2 := zCell_eq cl0
  rw [show cl0.head = hd0 from rfl, h00, show zItems cl0.flow = 0 from rfl] at h2
  rw [show rw0.head = hd0 from rfl, h00, show zCells rw0.cells = 1 + szR cl0.dat + 0 from rfl, h2] at h1
  rw [show exT.head = hd0 from rfl, h00, show exT.text.size = 0 from rfl, show zItems exT.flow = 0 from rfl, show zRows exT.rows = 1 + szR rw0.dat + 0 from rfl, h1] at h; exact h
theorem z14 : zItems ex14 ≤ 1073741824 := by
  simp only [zItems, ex14, List.map_cons, List.map_nil, szRs, zA, zP, z99, zT, zK, z100]; decide
theorem zSec : zItems exSec ≤ 1073741824 := by
  simp only [zItems, exSec, List.map_cons, List.map_nil, szRs, z97, zS, z98]; decide
theorem d14 : divS ex14 = true := by simp [divS, ex14, uA.2, uP.2, u99.2, uT.2, uK.2, u100.2]
theorem s14 : sumS ex14 = 8 := by simp [sumS, ex14, uA.1, uP.1, u99.1, uT.1, uK.1, u100.1]
theorem e14 : lenE ex14 = 0 := by simp [lenE, d14]
theorem l14 : lenS ex14 = 8 := by simp [lenS, d14, s14]
def bl14 : List BlkD := [⟨1, 0, 3, true⟩, ⟨1, 3, 4, false⟩, ⟨2, 4, 5, false⟩, ⟨4, 5, 6, false⟩, ⟨2, 6, 7, false⟩, ⟨1, 7, 8, false⟩]
theorem b14 : blkS 0 0 true ex14 = bl14 := by
  simp only [ex14, blkS, nA, nP, n99, nT, nK, n100]
  simp [exA, exP, ex99, exT, exK, ex100, ItemD.kind, restL, bl14]
theorem bs14 : blocksS ex14 = bl14 := by rw [blocksS, if_pos e14, b14]
theorem o14 : offs 0 ex14 = [(0, exA), (2, exP), (3, ex99), (4, exT), (5, exK), (6, exT), (7, ex100)] := by
  simp [offs, ex14, uA.1, uP.1, u99.1, uT.1, uK.1]
theorem lf2 : leftS 2 ex14 = [exA] := by simp [leftS, lA, o14, fitA, uA.1, uP.1, u99.1, uT.1, uK.1, u100.1]
theorem lf3 : leftS 3 ex14 = [exA, exP] := by simp [leftS, lA, o14, fitA, uA.1, uP.1, u99.1, uT.1, uK.1, u100.1]
theorem oA : offs 0 [exA] = [(0, exA)] := rfl
theorem oAP : offs 0 [exA, exP] = [(0, exA), (2, exP)] := by simp [offs, uA.1]
theorem rg0 : rightS 0 [exA] = [exA] := by simp [rightS, rA, oA, fitA, uA.1]
theorem rg2 : rightS 2 [exA, exP] = [exP] := by simp [rightS, rA, oAP, fitA, uA.1, uP.1]
theorem cut2 : CutOk 2 ex14 := by
  intro a ha; rw [o14] at ha
  simp only [List.mem_cons, List.not_mem_nil, or_false] at ha
  rcases ha with rfl | rfl | rfl | rfl | rfl | rfl | rfl <;> simp [fitA, uA.1]
theorem cut3 : CutOk 3 ex14 := by
  intro a ha; rw [o14] at ha
  simp only [List.mem_cons, List.not_mem_nil, or_false] at ha
  rcases ha with rfl | rfl | rfl | rfl | rfl | rfl | rfl <;> simp [fitA, uA.1, uP.1]
theorem cut0 : CutOk 0 [exA] := by
  intro a ha; rw [oA] at ha
  simp only [List.mem_cons, List.not_mem_nil, or_false] at ha
  subst ha; simp
theorem cut22 : CutOk 2 [exA, exP] := by
  intro a ha; rw [oAP] at ha
  simp only [List.mem_cons, List.not_mem_nil, or_false] at ha
  rcases ha with rfl | rfl <;> simp [fitA, uA.1]
theorem plA : PlainL [exA] := ⟨Nat.le_refl _, fun x hx => by rw [List.mem_singleton.1 hx]; exact ⟨rfl, rfl, by decide, fun _ => by rw [ByteArray.toList_eq]; decide⟩⟩
theorem plPara : PlainL [exP] := ⟨Nat.le_refl _, fun x hx => by rw [List.mem_singleton.1 hx]; exact ⟨rfl, rfl, by decide, fun h => absurd h (by decide)⟩⟩
theorem sSec : secS [] 0 0 exSec = [⟨0, 2, true, []⟩, ⟨2, 3, false, []⟩] := by
  simp only [exSec, secS, n97, nS, n98]
  simp [ex97, exS, ex98, ItemD.kind, ItemD.head]
abbrev itC (k : Int) (s : ByteArray) (r : Value) : List Value := [vi k, vi 0, vi 0, .string s, .slice none 0 0, vi 0, vi 0, .slice none 0 0, .slice none 0 0, .slice none 0 0, r]
theorem text14_spec (G : GH) (w0 : World) (hG : Hold G w0) (s : ByteArray) : Calls Try.prog 27 #[.string s] w0 (Ret w0 G fun u G' => u = .agg (itC 1 s (.slice none 0 0)).toArray ∧ G = G') := by
  refine enter (N := 5) (T := [(0, _)]) (F := fun k => k < w0.heap.size) (L := []) Try.func27 rfl Try.ntmps27 rfl rfl hG (fun _ h => h) (fun _ h => by cases h) (fun _ h => by cases h) (fun _ h => by cases h) List.Pairwise.nil ?_
  intro a H
  refine c_seq (fun _ hK1 => ?_)
  refine c_region ?_
  refine s_alloc ty47k14 H wn rfl ?_; clear H; intro b2 a w hb2 H
  refine wl_nil ?_
  refine hK1 _ _ ?_; clear hK1
  refine c_seq (fun _ hK2 => ?_)
  refine c_region ?_
  refine s_move H wn rfl rfl ?_; clear H; intro a H
  refine s_build sr47k14 [_, _, _, _, _, _, _, _, _, _, _] H wn rfl rfl rfl rfl ?_; clear H; intro a H
  refine s_store ty47k14 0 (vs := [_, _, _, _, _, _, _, _, _, _, _]) _ H wn rfl rfl rfl rfl rfl rfl rfl rfl ?_; clear H; intro w H; dsimp only [List.set, setRow] at H
  refine wl_nil ?_
  refine hK2 _ _ ?_; clear hK2
  refine c_ret ?_
  refine (leave1 H Try.results27 (.cons (rv_cella ty47k14 (cs := [_, _, _, _, _, _, _, _, _, _, _]) H rfl rfl (H.hp.ocells 0 rfl rfl)) .nil) ?_).1
  exact H.hp.ret ⟨rfl, rfl⟩
theorem it_rep {G : GH} (k : Int) (s : ByteArray) : RepRow G (ItemD.mk k 0 0 s hd0 [] []).dat (itC k s (.slice none 0 0)) :=
  RepRow.mkItem (x := ItemD.mk k 0 0 s hd0 [] []) hd0_rep (RepV.nil_ (A := none) (n := 0) (c := 0) rfl (by decide)) (RepV.nil_ (A := none) (n := 0) (c := 0) rfl (by decide))
def cs14 (r : Value) : List (List Value) := [itC 1 ⟨#[97, 98]⟩ (.slice none 0 0), itC 2 ⟨#[]⟩ (.slice none 0 0), itC 1 ⟨#[99]⟩ (.slice none 0 0), itC 7 ⟨#[]⟩ r, itC 8 ⟨#[]⟩ (.slice none 0 0), itC 7 ⟨#[]⟩ r, itC 1 ⟨#[100]⟩ (.slice none 0 0)]
theorem cs14_rep {G : GH} {r : Value} (h : RepV G (.sl 6 [rw0.dat]) r) : RepCat G 11 (ex14.map ItemD.dat) (cs14 r).flatten := by
  have hT : RepRow G exT.dat (itC 7 ⟨#[]⟩ r) := RepRow.mkItem (x := exT) hd0_rep (RepV.nil_ (A := none) (n := 0) (c := 0) rfl (by decide)) h
  refine ⟨cs14 r, rfl, rfl, fun j q cs hr hc => ?_⟩
  match j, hr, hc with
  | 0, hr, hc => cases hr; cases hc; exact ⟨it_rep _ _, rfl⟩
  | 1, hr, hc => cases hr; cases hc; exact ⟨it_rep _ _, rfl⟩
  | 2, hr, hc => cases hr; cases hc; exact ⟨it_rep _ _, rfl⟩
  | 3, hr, hc => cases hr; cases hc; exact ⟨hT, rfl⟩
  | 4, hr, hc => cases hr; cases hc; exact ⟨it_rep _ _, rfl⟩
  | 5, hr, hc => cases hr; cases hc; exact ⟨hT, rfl⟩
  | 6, hr, hc => cases hr; cases hc; exact ⟨it_rep _ _, rfl⟩
  | n + 7, hr, hc => cases hc
set_option maxHeartbeats 1000000 in
theorem example14_spec (G : GH) (w0 : World) (hG : Hold G w0) :
    Calls Try.prog 23 #[] w0 (Ret w0 G fun u G' => RepV G' (.sl 11 (ex14.map ItemD.dat)) u) := by
  refine enter (N := 15) (T := []) (F := fun k => k < w0.heap.size) (L := []) Try.func23 rfl Try.ntmps23 rfl rfl hG (fun _ h => h) (fun _ h => by cases h) (fun _ h => by cases h) (fun _ h => by cases h) List.Pairwise.nil ?_
  intro a H
  refine c_seq (fun _ hK1 => ?_)
  refine c_region ?_
  refine s_assign H wn rfl rfl ?_; clear H; intro a H
  refine wl_nil ?_
  refine hK1 _ _ ?_; clear hK1
  refine c_seq (fun _ hK2 => ?_)
  refine c_region ?_
  refine s_build sr104k14 [_, _, _, _, _, _, _] H wn rfl rfl rfl rfl ?_; clear H; intro a H
  refine s_buildSlice un105k14 ty104k14 [_, _, _, _, _, _, _] [_, _, _, _, _, _, _] H wn rfl rfl rfl rfl rfl (by intro i q h; match i, h with | 0, h => exact h | n + 1, h => simp at h) rfl rfl ?_; clear H; intro b3 a w hb3 H
  refine s_build sr107k14 [_, _, _, _, _, _] H wn rfl rfl rfl rfl ?_; clear H; intro a H
  refine s_buildSlice un45k14 ty107k14 [_, _, _, _, _, _] [_, _, _, _, _, _] H wn rfl rfl rfl rfl rfl (by intro i q h; match i, h with | 0, h => exact h | n + 1, h => simp at h) rfl rfl ?_; clear H; intro b5 a w hb5 H
  refine s_build sr47k14 [_, _, _, _, _, _, _, _, _, _, _] H wn rfl rfl rfl rfl ?_; clear H; intro a H
  refine s_alloc ty47k14 H wn rfl ?_; clear H; intro b1 a w hb1 H
  refine s_store ty47k14 0 (vs := [_, _, _, _, _, _, _, _, _, _, _]) _ H wn rfl rfl rfl rfl rfl rfl rfl rfl ?_; clear H; intro w H; dsimp only [List.set, setRow] at H
  refine wl_nil ?_
  refine hK2 _ _ ?_; clear hK2
  refine c_seq (fun _ hK3 => ?_)
  have H := H.pickT (Pl := [_, _, _]) (Pl' := [_, _, _]) [2, 1, 0] (by decide) rfl
  obtain ⟨Ga, hma, hra, H⟩ := H.giveOne (sz := 7) (d := cl0.dat) rfl (RepRow.mkCell (x := cl0) hd0_rep (RepV.nil_ (A := none) (n := 0) (c := 0) rfl (by decide)))
  obtain ⟨Gb, hmb, hrb, H⟩ := H.giveOne (sz := 6) (d := rw0.dat) rfl (RepRow.mkRow (x := rw0) hd0_rep hra)
  have H := H.sub (T' := [(1, _)]) ⟨rfl, trivial⟩
  have hprm2 : ∀ (i : Nat) (v : Value) (G G' : GH), (∀ k o, G k = some o → G' k = some o) → (fun (i : Nat) (v : Value) (G : GH) => match i with | 0 => v = .agg (itC 1 ⟨#[97, 98]⟩ (.slice none 0 0)).toArray | 1 => v = .agg (itC 2 ⟨#[]⟩ (.slice none 0 0)).toArray | 2 => v = .agg (itC 1 ⟨#[99]⟩ (.slice none 0 0)).toArray | 3 => v = .agg (itC 7 ⟨#[]⟩ (.slice (some ⟨b5, 0, none⟩) 1 1)).toArray | 4 => v = .agg (itC 8 ⟨#[]⟩ (.slice none 0 0)).toArray | 5 => v = .agg (itC 7 ⟨#[]⟩ (.slice (some ⟨b5, 0, none⟩) 1 1)).toArray | 6 => v = .agg (itC 1 ⟨#[100]⟩ (.slice none 0 0)).toArray | _ => True) i v G → (fun (i : Nat) (v : Value) (G : GH) => match i with | 0 => v = .agg (itC 1 ⟨#[97, 98]⟩ (.slice none 0 0)).toArray | 1 => v = .agg (itC 2 ⟨#[]⟩ (.slice none 0 0)).toArray | 2 => v = .agg (itC 1 ⟨#[99]⟩ (.slice none 0 0)).toArray | 3 => v = .agg (itC 7 ⟨#[]⟩ (.slice (some ⟨b5, 0, none⟩) 1 1)).toArray | 4 => v = .agg (itC 8 ⟨#[]⟩ (.slice none 0 0)).toArray | 5 => v = .agg (itC 7 ⟨#[]⟩ (.slice (some ⟨b5, 0, none⟩) 1 1)).toArray | 6 => v = .agg (itC 1 ⟨#[100]⟩ (.slice none 0 0)).toArray | _ => True) i v G' := by
    intro i v G G' hm h
    match i, h with
    | 0, h => exact h
    | 1, h => exact h
    | 2, h => exact h
    | 3, h => exact h
    | 4, h => exact h
    | 5, h => exact h
    | 6, h => exact h
    | 7, h => exact trivial
    | 8, h => exact trivial
    | _ + 9, h => exact trivial
  refine c_drawI (hmx) [[], [], [0], [], [], [], [0, 2], [0, 1, 2, 3, 4, 5, 6], [0, 1, 2, 3, 4, 5, 6, 7]] [7, 8] (by kernel_rfl) (by kernel_rfl) (fun (i : Nat) (v : Value) (G : GH) => match i with | 0 => v = .agg (itC 1 ⟨#[97, 98]⟩ (.slice none 0 0)).toArray | 1 => v = .agg (itC 2 ⟨#[]⟩ (.slice none 0 0)).toArray | 2 => v = .agg (itC 1 ⟨#[99]⟩ (.slice none 0 0)).toArray | 3 => v = .agg (itC 7 ⟨#[]⟩ (.slice (some ⟨b5, 0, none⟩) 1 1)).toArray | 4 => v = .agg (itC 8 ⟨#[]⟩ (.slice none 0 0)).toArray | 5 => v = .agg (itC 7 ⟨#[]⟩ (.slice (some ⟨b5, 0, none⟩) 1 1)).toArray | 6 => v = .agg (itC 1 ⟨#[100]⟩ (.slice none 0 0)).toArray | _ => True) hprm2 H ?_ ?_
  · clear H; refine (allI_cons ?_ (allI_cons ?_ (allI_cons ?_ (allI_cons ?_ (allI_cons ?_ (allI_cons ?_ (allI_cons ?_ (allI_cons ?_ (allI_cons ?_ allI_nil)))))))))
    · intro S a w G1 _ hSi hc hG HT hv; have H := HT; clear hSi
      have Hb := H.full; have H := Hb; clear hc
      refine s_call en27k14 H wn rfl (text14_spec _ _ H.hp.ro _) rfl ?_; clear H
      rintro v7 G7 a w ⟨rfl, -⟩ hGm7 H
      refine wl_nil ⟨rfl, ?_⟩
      exact draw_val (by kernel_rfl) hprm2 rfl rfl HT Hb hG hv hGm7 (rfl) H
    · intro S a w G1 _ hSi hc hG HT hv; have H := HT; clear hSi
      have Hb := H.full; have H := Hb; clear hc
      refine s_build sr47k14 [_, _, _, _, _, _, _, _, _, _, _] H wn rfl rfl rfl rfl ?_; clear H; intro a H
      refine wl_nil ⟨rfl, ?_⟩
      exact draw_val (by kernel_rfl) hprm2 rfl rfl HT Hb hG hv (fun _ _ h => h) (rfl) H
    · intro S a w G1 _ hSi hc hG HT hv; have H := HT; clear hSi
      have Hb := H.full; have H := Hb; clear hc
      refine s_call en27k14 H wn rfl (text14_spec _ _ H.hp.ro _) rfl ?_; clear H
      rintro v9 G9 a w ⟨rfl, -⟩ hGm9 H
      refine wl_nil ⟨rfl, ?_⟩
      exact draw_val (by kernel_rfl) hprm2 rfl rfl HT Hb hG hv hGm9 (rfl) H
    · intro S a w G1 _ hSi hc hG HT hv; have H := HT; clear hSi
      have Hb := H.full; have H := Hb; clear hc
      refine s_loada ty47k14 (cs := [_, _, _, _, _, _, _, _, _, _, _]) H wn rfl rfl (H.hp.ocells 0 rfl rfl) rfl ?_; clear H; intro a H
      refine wl_nil ⟨rfl, ?_⟩
      exact draw_val (by kernel_rfl) hprm2 rfl rfl HT Hb hG hv (fun _ _ h => h) (rfl) H
    · intro S a w G1 _ hSi hc hG HT hv; have H := HT; clear hSi
      have Hb := H.full; have H := Hb; clear hc
      refine s_build sr47k14 [_, _, _, _, _, _, _, _, _, _, _] H wn rfl rfl rfl rfl ?_; clear H; intro a H
      refine wl_nil ⟨rfl, ?_⟩
      exact draw_val (by kernel_rfl) hprm2 rfl rfl HT Hb hG hv (fun _ _ h => h) (rfl) H
    · intro S a w G1 _ hSi hc hG HT hv; have H := HT; clear hSi
      have Hb := H.full; have H := Hb; clear hc
      refine s_loada ty47k14 (cs := [_, _, _, _, _, _, _, _, _, _, _]) H wn rfl rfl (H.hp.ocells 0 rfl rfl) rfl ?_; clear H; intro a H
      refine wl_nil ⟨rfl, ?_⟩
      exact draw_val (by kernel_rfl) hprm2 rfl rfl HT Hb hG hv (fun _ _ h => h) (rfl) H
    · intro S a w G1 _ hSi hc hG HT hv; have H := HT; clear hSi
      have Hb := H.full; have H := Hb; clear hc
      refine s_call en27k14 H wn rfl (text14_spec _ _ H.hp.ro _) rfl ?_; clear H
      rintro v13 G13 a w ⟨rfl, -⟩ hGm13 H
      refine wl_nil ⟨rfl, ?_⟩
      exact draw_val (by kernel_rfl) hprm2 rfl rfl HT Hb hG hv hGm13 (rfl) H
    · intro _ _ _ _ hB; exact absurd hB (by decide)
    · intro _ _ _ _ hB; exact absurd hB (by decide)
  · clear H; intro a w G hGm2 H hv
    obtain ⟨u7, hu7, hp7⟩ := hv 0 7 (by decide) rfl
    obtain rfl : u7 = .agg (itC 1 ⟨#[97, 98]⟩ (.slice none 0 0)).toArray := hp7
    have H := H.addS hu7
    obtain ⟨u8, hu8, hp8⟩ := hv 1 8 (by decide) rfl
    obtain rfl : u8 = .agg (itC 2 ⟨#[]⟩ (.slice none 0 0)).toArray := hp8
    have H := H.addS hu8
    obtain ⟨u9, hu9, hp9⟩ := hv 2 9 (by decide) rfl
    obtain rfl : u9 = .agg (itC 1 ⟨#[99]⟩ (.slice none 0 0)).toArray := hp9
    have H := H.addS hu9
    obtain ⟨u10, hu10, hp10⟩ := hv 3 10 (by decide) rfl
    obtain rfl : u10 = .agg (itC 7 ⟨#[]⟩ (.slice (some ⟨b5, 0, none⟩) 1 1)).toArray := hp10
    have H := H.addS hu10
    obtain ⟨u11, hu11, hp11⟩ := hv 4 11 (by decide) rfl
    obtain rfl : u11 = .agg (itC 8 ⟨#[]⟩ (.slice none 0 0)).toArray := hp11
    have H := H.addS hu11
    obtain ⟨u12, hu12, hp12⟩ := hv 5 12 (by decide) rfl
    obtain rfl : u12 = .agg (itC 7 ⟨#[]⟩ (.slice (some ⟨b5, 0, none⟩) 1 1)).toArray := hp12
    have H := H.addS hu12
    obtain ⟨u13, hu13, hp13⟩ := hv 6 13 (by decide) rfl
    obtain rfl : u13 = .agg (itC 1 ⟨#[100]⟩ (.slice none 0 0)).toArray := hp13
    have H := H.addS hu13
    clear hv
    refine s_buildAll un28k14 ty47k14 (cs14 (.slice (some ⟨b5, 0, none⟩) 1 1)) H wn rfl rfl rfl rfl rfl rfl rfl ?_; clear H; intro b14 a w hb14 H
    refine s_assign H wn rfl rfl ?_; clear H; intro a H
    refine wl_nil ⟨rfl, ?_⟩
    refine hK3 _ _ ?_; clear hK3
    refine c_ret ?_
    refine (leave1 H Try.results23 (.cons (rv_tmp H rfl) .nil) ?_).1
    obtain ⟨Gz, hmz, hbz, H⟩ := H.giveBox
    exact H.hp.ret (RepV.of_row (n := 7) (cap := 7) hbz rfl (Nat.le_refl _) (show 7 ≤ maxLen by decide) (List.take_of_length_le (Nat.le_refl _)) (cs14_rep ((hrb.mono hGm2).mono hmz)))
end Go.Proofs.Ytbfdhlakbdadhaa
