/-
  The example of layer 15, and what it gives.
-/
import Derived.Test.YtbfdhlakbdadhaaPth
namespace Go.Proofs.Ytbfdhlakbdadhaa
open Go.RowKit
theorem ty62kt : Ty Try.prog 62 11 232 [.slice none 0 0, .slice none 0 0, .int .i64 0, .int .i64 0, .slice none 0 0, .slice none 0 0, .slice none 0 0, .slice none 0 0, .slice none 0 0, .slice none 0 0, .slice none 0 0] true := ⟨by kernel_rfl, by kernel_rfl⟩
theorem sr47kt : Srt Try.prog 47 [(0, 1), (1, 1), (2, 1), (3, 1), (4, 5), (9, 1), (10, 1)] [.int .i64 0, .int .i64 0, .int .i64 0, .string ⟨#[]⟩, .slice none 0 0, .int .i64 0, .int .i64 0, .slice none 0 0, .slice none 0 0, .slice none 0 0, .slice none 0 0] := ⟨by kernel_rfl, by kernel_rfl⟩
theorem un28kt : Try.prog.underlying 28 = some (.slice 47) := by kernel_rfl
theorem ty47kt : Ty Try.prog 47 11 176 [.int .i64 0, .int .i64 0, .int .i64 0, .string ⟨#[]⟩, .slice none 0 0, .int .i64 0, .int .i64 0, .slice none 0 0, .slice none 0 0, .slice none 0 0, .slice none 0 0] true := ⟨by kernel_rfl, by kernel_rfl⟩
theorem sr62kt : Srt Try.prog 62 [(0, 1), (1, 5), (6, 1), (7, 4)] [.slice none 0 0, .slice none 0 0, .int .i64 0, .int .i64 0, .slice none 0 0, .slice none 0 0, .slice none 0 0, .slice none 0 0, .slice none 0 0, .slice none 0 0, .slice none 0 0] := ⟨by kernel_rfl, by kernel_rfl⟩
theorem txt_ab : validS ⟨#[97, 98]⟩ = true ∧ cntFrom ⟨#[97, 98]⟩ 0 = 2 := by
  have d0 : decS ⟨#[97, 98]⟩ 0 = (97, 1, true) := by decide
  have d1 : decS ⟨#[97, 98]⟩ 1 = (98, 1, true) := by decide
  have e2 : firstS ⟨#[97, 98]⟩ 2 = -1 := by rw [firstS, dif_neg (by decide)]
  have e1 : firstS ⟨#[97, 98]⟩ 1 = -1 := by rw [firstS, dif_pos (by decide), dif_pos (by rw [d1]), d1]; exact e2
  have e0 : firstS ⟨#[97, 98]⟩ 0 = -1 := by rw [firstS, dif_pos (by decide), dif_pos (by rw [d0]), d0]; exact e1
  have c2 : cntFrom ⟨#[97, 98]⟩ 2 = 0 := by rw [cntFrom, if_neg (by decide)]
  have c1 : cntFrom ⟨#[97, 98]⟩ 1 = 1 := by rw [cntFrom, if_pos (by decide), c2]; decide
  have c0 : cntFrom ⟨#[97, 98]⟩ 0 = 2 := by rw [cntFrom, if_pos (by decide), c1]; decide
  exact ⟨by unfold validS; rw [e0]; decide, c0⟩
theorem txt_x : validS ⟨#[120]⟩ = true ∧ cntFrom ⟨#[120]⟩ 0 = 1 := by
  have d0 : decS ⟨#[120]⟩ 0 = (120, 1, true) := by decide
  have e1 : firstS ⟨#[120]⟩ 1 = -1 := by rw [firstS, dif_neg (by decide)]
  have e0 : firstS ⟨#[120]⟩ 0 = -1 := by rw [firstS, dif_pos (by decide), dif_pos (by rw [d0]), d0]; exact e1
  have c1 : cntFrom ⟨#[120]⟩ 1 = 0 := by rw [cntFrom, if_neg (by decide)]
  have c0 : cntFrom ⟨#[120]⟩ 0 = 1 := by rw [cntFrom, if_pos (by decide), c1]; decide
  exact ⟨by unfold validS; rw [e0]; decide, c0⟩
abbrev hd0 : HeadD := ⟨[], ⟨0, 0, [], []⟩⟩
def exA : ItemD := .mk 1 0 0 ⟨#[97, 98]⟩ hd0 [] []
def exX : ItemD := .mk 1 0 0 ⟨#[120]⟩ hd0 [] []
def exN : ItemD := .mk 6 1 4 ⟨#[]⟩ hd0 [exX] []
def exP : ItemD := .mk 2 0 0 ⟨#[]⟩ hd0 [] []
def exL : List ItemD := [exA, exN, exP]
theorem uA : unitsS exA = 2 ∧ unitsE exA = 0 := by simp [unitsS, unitsE, exA, ItemD.kind, ItemD.text, cntS, utfS, txt_ab.1, txt_ab.2]
theorem uX : unitsS exX = 1 ∧ unitsE exX = 0 := by simp [unitsS, unitsE, exX, ItemD.kind, ItemD.text, cntS, utfS, txt_x.1, txt_x.2]
theorem uN : unitsS exN = 1 ∧ unitsE exN = 0 := by simp [unitsS, unitsE, exN, ItemD.kind]
theorem uP : unitsS exP = 1 ∧ unitsE exP = 0 := by simp [unitsS, unitsE, exP, ItemD.kind]
theorem nA : n1 exA = 2 := by simp [n1, uA.1, uA.2]
theorem nX : n1 exX = 1 := by simp [n1, uX.1, uX.2]
theorem nN : n1 exN = 1 := by simp [n1, uN.1, uN.2]
theorem nP : n1 exP = 1 := by simp [n1, uP.1, uP.2]
theorem exV : vItems 0 0 exL = [(0, 0), (0, 1), (0, 2), (4, 0), (4, 1), (0, 3), (0, 4)] := by
  have hX : vItems 4 0 [exX] = [(4, 0), (4, 1)] := by
    simp only [vItems, vItem_eq, nX]; simp [exX, ItemD.kind, ItemD.rows, vRows, List.range, List.range.loop]
  simp only [exL, vItems, vItem_eq, nA, nN, nP]
  simp [exA, exN, exP, ItemD.kind, ItemD.rows, ItemD.id, ItemD.flow, vRows, List.range, List.range.loop, hX]
theorem exF : flowsD exL = [⟨0, exL, true, false, 0⟩, ⟨4, [exX], false, true, 0⟩] := by
  simp [flowsD, exL, wItems, wItem_eq, exA, exN, exP, exX, ItemD.kind, ItemD.id, ItemD.flow]
theorem exF4 : flowOf exL 4 = some [exX] := by simp [flowOf, exF]
theorem exF0 : flowOf exL 0 = some exL := by simp [flowOf, exF]
theorem lenX : lenS [exX] = 1 := by rw [lenS_one, nX]; rfl
theorem exC : chkR exL 4 1 1 = 0 := by simp [chkR, exF4, lenX]
theorem exIx : ixS exL 4 1 = (4, 0) := by simp [ixS, exC, exV, List.findIdx?, List.findIdx?.go]
theorem exOf : ofS exL 5 = ((0, 3), 0) := by simp [ofS, exV]
theorem exPl : pItems 0 0 exL = [((0, 2), exN)] := by
  have hX : pItems 4 0 [exX] = [] := by simp [pItems, pItem_eq, exX, ItemD.kind]
  have a1 : adv exA = 2 := by simp [adv, exA, ItemD.kind, ItemD.text, cntS, txt_ab.1, txt_ab.2]
  simp [exL, pItems, pItem_eq, a1]
  simp [exA, exN, exP, ItemD.kind, innerC, pCells, pCell_eq, CellD.id, CellD.flow, ItemD.id, ItemD.flow, hX]
theorem exPs : placeS exL 4 = some (0, 2) := by simp [placeS, exPl, isAt, exN, ItemD.id]
theorem exPth : pathN exL 2 4 = some (some [(0, 2)]) := by simp [pathN, exPs]
theorem exLi : liftS exL 4 1 0 [(0, 2)] = some 2 := by simp [liftS, exC]
theorem exN7 : posN exL = 7 := by simp [posN, exV]
theorem exZ : zItems exL ≤ 4294967296 := by
  have h1 := zItem_eq exA
  have h2 := zItem_eq exN
  have h3 := zItem_eq exP
  have h4 := zItem_eq exX
  have h0 : zHead hd0 = 5 := by simp [zHead_eq, szRs]
  have s1 : exA.text.size = 2 := rfl
  have s2 : exN.text.size = 0 := rfl
  have s3 : exP.text.size = 0 := rfl
  have s4 : exX.text.size = 1 := rfl
  have g1 : exA.head = hd0 := rfl
  have g2 : exN.head = hd0 := rfl
  have g3 : exP.head = hd0 := rfl
  have g4 : exX.head = hd0 := rfl
  have f1 : zItems exA.flow = 0 := rfl
  have f2 : zItems exN.flow = 1 + szR exX.dat := rfl
  have f3 : zItems exP.flow = 0 := rfl
  have f4 : zItems exX.flow = 0 := rfl
  have r1 : zRows exA.rows = 0 := rfl
  have r2 : zRows exN.rows = 0 := rfl
  have r3 : zRows exP.rows = 0 := rfl
  have r4 : zRows exX.rows = 0 := rfl
  simp only [zItems, exL, List.map_cons, List.map_nil, szRs]
  rw [g1, h0] at h1; rw [g2, h0] at h2; rw [g3, h0] at h3; rw [g4, h0] at h4
  omega
theorem hd0_rep {G : GH} : HeadR G hd0 (.slice none 0 0) (.slice none 0 0) (.slice none 0 0) := ⟨RepV.nil_ rfl (by decide), RepV.nil_ rfl (by decide), RepV.nil_ rfl (by decide)⟩
theorem example_spec (G : GH) (w0 : World) (hG : Hold G w0) :
    Calls Try.prog 17 #[] w0 (Ret w0 G fun u G' => ∃ D : DocV, u = D.val ∧ RepV G' (.sl 11 (exL.map ItemD.dat)) (sl3 D.f)) := by
  refine enter (N := 10) (T := []) (F := fun k => k < w0.heap.size) (L := []) Try.func17 rfl Try.ntmps17 rfl rfl hG (fun _ h => h) (fun _ h => by cases h) (fun _ h => by cases h) (fun _ h => by cases h) List.Pairwise.nil ?_
  intro a H
  refine c_seq (fun _ hK1 => ?_)
  refine c_region ?_
  refine s_alloc ty62kt H wn rfl ?_; clear H; intro b0 a w hb0 H
  refine wl_nil ?_
  refine hK1 _ _ ?_; clear hK1
  refine c_seq (fun _ hK2 => ?_)
  refine c_region ?_
  refine s_build sr47kt [_, _, _, _, _, _, _, _, _, _, _] H wn rfl rfl rfl rfl ?_; clear H; intro a H
  refine s_buildSlice un28kt ty47kt [_, _, _, _, _, _, _, _, _, _, _] [_, _, _, _, _, _, _, _, _, _, _] H wn rfl rfl rfl rfl rfl (by intro i q h; match i, h with | 0, h => exact h | n + 1, h => simp at h) rfl rfl ?_; clear H; intro b3 a w hb3 H
  refine s_build sr47kt [_, _, _, _, _, _, _, _, _, _, _] H wn rfl rfl rfl rfl ?_; clear H; intro a H
  refine s_alloc ty47kt H wn rfl ?_; clear H; intro b1 a w hb1 H
  refine s_store ty47kt 0 (vs := [_, _, _, _, _, _, _, _, _, _, _]) _ H wn rfl rfl rfl rfl rfl rfl rfl rfl ?_; clear H; intro w H; dsimp only [List.set, setRow] at H
  refine wl_nil ?_
  refine hK2 _ _ ?_; clear hK2
  refine c_seq (fun _ hK3 => ?_)
  refine c_region ?_
  refine s_build sr47kt [_, _, _, _, _, _, _, _, _, _, _] H wn rfl rfl rfl rfl ?_; clear H; intro a H
  refine s_loada ty47kt (cs := [_, _, _, _, _, _, _, _, _, _, _]) H wn rfl rfl (H.hp.ocells 0 rfl rfl) rfl ?_; clear H; intro a H
  refine s_build sr47kt [_, _, _, _, _, _, _, _, _, _, _] H wn rfl rfl rfl rfl ?_; clear H; intro a H
  refine s_buildSlice un28kt ty47kt [_, _, _, _, _, _, _, _, _, _, _, _, _, _, _, _, _, _, _, _, _, _, _, _, _, _, _, _, _, _, _, _, _] [_, _, _, _, _, _, _, _, _, _, _, _, _, _, _, _, _, _, _, _, _, _, _, _, _, _, _, _, _, _, _, _, _] H wn rfl rfl rfl rfl rfl (by intro i q h; match i, h with | 0, h => exact h | 1, h => exact h | 2, h => exact h | n + 3, h => simp at h) rfl rfl ?_; clear H; intro b8 a w hb8 H
  refine s_build sr62kt [_, _, _, _, _, _, _, _, _, _, _] H wn rfl rfl rfl rfl ?_; clear H; intro a H
  refine s_store ty62kt 3 (vs := [_, _, _, _, _, _, _, _, _, _, _]) _ H wn rfl rfl rfl rfl rfl rfl rfl rfl ?_; clear H; intro w H; dsimp only [List.set, setRow] at H
  refine wl_nil ?_
  refine hK3 _ _ ?_; clear hK3
  refine c_ret ?_
  refine (leave1 H Try.results17 (.cons (rv_cella ty62kt (cs := [_, _, _, _, _, _, _, _, _, _, _]) H rfl rfl (H.hp.ocells 3 rfl rfl)) .nil) ?_).1
  have H := H.pickT (Pl := [_, _, _, _]) (Pl' := [_, _]) [2, 0] (by decide) rfl
  obtain ⟨G2, hm2, hr2, H⟩ := H.giveOne (sz := 11) (d := exX.dat) rfl (RepRow.mkItem (x := exX) hd0_rep (RepV.nil_ rfl (by decide)) (RepV.nil_ rfl (by decide)))
  obtain ⟨G3, hm3, hb8, H⟩ := H.giveBox
  have rA : RepRow G3 exA.dat _ := RepRow.mkItem (x := exA) hd0_rep (RepV.nil_ (A := none) (n := 0) (c := 0) rfl (by decide)) (RepV.nil_ (A := none) (n := 0) (c := 0) rfl (by decide))
  have rN : RepRow G3 exN.dat _ := RepRow.mkItem (x := exN) hd0_rep (hr2.mono hm3) (RepV.nil_ (A := none) (n := 0) (c := 0) rfl (by decide))
  have rP : RepRow G3 exP.dat _ := RepRow.mkItem (x := exP) hd0_rep (RepV.nil_ (A := none) (n := 0) (c := 0) rfl (by decide)) (RepV.nil_ (A := none) (n := 0) (c := 0) rfl (by decide))
  have hcat : RepCat G3 11 (exL.map ItemD.dat) _ := ((RepCat.nil.snoc rA rfl).snoc rN rfl).snoc rP rfl
  exact H.hp.ret ⟨⟨(some ⟨b8, 0, none⟩, 3, 3), (none, 0, 0), (none, 0, 0), (none, 0, 0), (none, 0, 0), (none, 0, 0), (none, 0, 0), (none, 0, 0), (none, 0, 0), 0, 0⟩, rfl, RepV.of_row (n := 3) (cap := 3) hb8 rfl (Nat.le_refl _) (show 3 ≤ maxLen by decide) rfl hcat⟩
end Go.Proofs.Ytbfdhlakbdadhaa
