/-
  Package obeluslaw31: known, what its strings give.
-/
import Derived.Test.YtpmcdlhhfbobfaaDoorBsm
import Derived.Test.YtpmcdlhhfbobfaaDoorBst2
namespace Go.Proofs.YtpmcdlhhfbobfaaDoor
open Go.RowKit
abbrev sThe : ByteArray := ⟨#[116, 104, 101, 32, 99, 97, 116]⟩
abbrev sA : ByteArray := ⟨#[97, 32, 99, 97, 116]⟩
theorem the_rn : rnS sThe = [(0, 116), (1, 104), (2, 101), (3, 32), (4, 99), (5, 97), (6, 116)] := by kernel_rfl
theorem a_rn : rnS sA = [(0, 97), (1, 32), (2, 99), (3, 97), (4, 116)] := by kernel_rfl
theorem the_bd : bdN sThe = [0, 1, 2, 3, 4, 5, 6, 7] := by kernel_rfl
theorem a_bd : bdN sA = [0, 1, 2, 3, 4, 5] := by kernel_rfl
theorem the_pt : ptS sThe = [116, 104, 101, 32, 99, 97, 116] := by kernel_rfl
theorem a_pt : ptS sA = [97, 32, 99, 97, 116] := by kernel_rfl
theorem the_va : validS sThe = true := by kernel_rfl
theorem a_va : validS sA = true := by kernel_rfl
theorem the_tk : (tkS (cluS sThe)).map (fun t => (t.kind, t.from_, t.to)) = [(1, 0, 3), (3, 3, 4), (1, 4, 7)] := by kernel_rfl
theorem the_two : twoA sThe = [⟨1, 3⟩, ⟨2, 1⟩, ⟨3, 3⟩] := by kernel_rfl
theorem a_two : twoB sThe sA = [⟨4, 1⟩, ⟨2, 1⟩, ⟨3, 3⟩] := by kernel_rfl
theorem the_aln : alnS (twoA sThe) (twoB sThe sA) = 666 := by kernel_rfl
theorem the_best : bestL [[500, 900], [1000, 600]] = [⟨0, 0, 500⟩, ⟨1, 1, 600⟩] := by kernel_rfl
theorem the_chk : chkS [[500, 900], [1000, 600]] = 0 := by kernel_rfl
theorem the_ok : SOk (fun _ => none) sThe := ⟨by decide, the_va, VOk.ascii (by decide) (by decide), by kernel_rfl⟩
theorem a_ok : SOk (fun _ => none) sA := ⟨by decide, a_va, VOk.ascii (by decide) (by decide), by kernel_rfl⟩
theorem en17kb : ∀ args w, (callFunc 17 args).run Tryd.prog w = .ok (.enter 17 args) w := enters Tryd.func17 rfl (by kernel_rfl)
theorem en28kb : ∀ args w, (callFunc 28 args).run Tryd.prog w = .ok (.enter 28 args) w := enters Tryd.func28 rfl (by kernel_rfl)
theorem bsim_spec {G0 : GH} (G : GH) (w0 : World) (hG : Hold G w0) (h0 : ∀ b o, G0 b = some o → G b = some o) (s t : ByteArray) (hs : SOk G0 s) (ht : SOk G0 t) (hz1 : s.size ≤ 2000) (hz2 : t.size ≤ 2000) :
    Calls Tryd.prog 20 #[.string s, .string t] w0 (Ret w0 G fun u G' => u = .tuple #[vi (alnS (twoA s) (twoB s t)), vi 0]) := by
  have hl1 := tkL_len s; have hl2 := tkL_len t; have ha := (tokP_all (tkL s) []).1; have hb := (tokP_all (tkL t) (tokP (tkL s) []).2).1; rw [show (tokP (tkL s) []).1 = twoA s from rfl] at ha; rw [show (tokP (tkL t) (tokP (tkL s) []).2).1 = twoB s t from rfl] at hb; refine enter (N := 24) (T := [(0, _), (1, _)]) (F := fun k => k < w0.heap.size) (L := []) Tryd.func20 rfl Tryd.ntmps20 rfl rfl hG (fun _ h => h) (fun _ h => by cases h) (fun _ h => by cases h) (fun _ h => by cases h) List.Pairwise.nil ?_; intro a H; refine c_seq (fun _ hK1 => ?_); refine c_region ?_; (iterate 2 refine s_assign H wn rfl rfl ?_; clear H; intro a H); refine wl_nil ?_; refine hK1 _ _ ?_; clear hK1; refine c_seq (fun _ hK2 => ?_); refine c_region ?_; (iterate 2 refine s_move H wn rfl rfl ?_; clear H; intro a H); refine s_call en17kb H wn rfl (btwo_spec _ _ H.hp.ro h0 s t hs ht hz1 hz2) rfl ?_; clear H; rintro v12 G12 a w ⟨x12, y12, rfl, hx12, hy12⟩ hm12 H; refine s_move H wn rfl rfl ?_; clear H; intro a H; (iterate 3 refine s_extract H wn rfl rfl rfl ?_; clear H; intro a H); (iterate 3 refine s_assign H wn rfl rfl ?_; clear H; intro a H); refine wl_nil ?_; refine hK2 _ _ ?_; clear hK2; refine c_seq (fun _ hK3 => ?_); refine c_seq (fun _ hK4 => ?_); refine c_region ?_; refine s_move H wn rfl rfl ?_; clear H; intro a H; refine s_cmp H wn rfl rfl rfl rfl ?_; clear H; intro a H; refine wl_nil ?_; refine hK4 _ _ ?_; clear hK4; refine c_cond H rfl ?_ ?_
  · intro h17
    try have p17 := of_decide_eq_true h17
    exact absurd h17 (by decide)
  intro h17
  try have p17 := of_decide_eq_false h17
  refine c_skip ?_; refine hK3 _ _ ?_; clear hK3; refine c_seq (fun _ hK5 => ?_); refine c_region ?_; (iterate 2 refine s_move H wn rfl rfl ?_; clear H; intro a H); refine s_call en28kb H wn rfl (asim_spec _ _ H.hp.ro _ _ _ _ hx12 hy12 (by omega) (by omega) (twoA_ok s) (twoB_ok s t)) rfl ?_; clear H; rintro v21 G21 a w rfl hm21 H; (iterate 2 refine s_extract H wn rfl rfl rfl ?_; clear H; intro a H); (iterate 2 refine s_assign H wn rfl rfl ?_; clear H; intro a H); refine wl_nil ?_; refine hK5 _ _ ?_; clear hK5; refine c_ret ?_; refine (leaveT H Tryd.results20 (.cons (rv_tmp H rfl) (.cons (rv_tmp H rfl) .nil)) ?_).1; exact H.hp.ret rfl
end Go.Proofs.YtpmcdlhhfbobfaaDoor
