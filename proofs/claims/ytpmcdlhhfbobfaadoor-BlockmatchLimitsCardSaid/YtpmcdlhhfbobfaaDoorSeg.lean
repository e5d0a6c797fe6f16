/-
  Package segment: clusters, Tokens.
-/
import Derived.Test.YtpmcdlhhfbobfaaDoorTok
namespace Go.Proofs.YtpmcdlhhfbobfaaDoor
open Go.RowKit
theorem un60seg : Tryd.prog.underlying 60 = some (.slice 66) := by kernel_rfl
theorem ty66seg : Ty Tryd.prog 66 3 24 [.int .i64 0, .int .i64 0, .int .i64 0] true := ⟨by kernel_rfl, by kernel_rfl⟩
theorem en47seg : ∀ args w, (callFunc 47 args).run Tryd.prog w = .ok (.enter 47 args) w := enters Tryd.func47 rfl (by kernel_rfl)
theorem ty60seg : Ty Tryd.prog 60 1 24 [.slice none 0 0] false := ⟨by kernel_rfl, by kernel_rfl⟩
theorem en46seg : ∀ args w, (callFunc 46 args).run Tryd.prog w = .ok (.enter 46 args) w := enters Tryd.func46 rfl (by kernel_rfl)
theorem tk_cat (G : GH) : ∀ (B A : List TkD), RepCat G 3 (A.map TkD.dat) (A.map TkD.cells).flatten → RepCat G 3 ((A ++ B).map TkD.dat) ((A ++ B).map TkD.cells).flatten
  | [], A, h => by rw [List.append_nil]; exact h
  | x :: B, A, h => by
    have h2 := h.snoc (tk_row G x) rfl
    have h3 := tk_cat G B (A ++ [x]) (by simpa using h2)
    simpa using h3
theorem tks_cat (G : GH) (A : List TkD) : RepCat G 3 (A.map TkD.dat) (A.map TkD.cells).flatten := tk_cat G A [] RepCat.nil
theorem appendSeq_spec {G : GH} {w0 : World} {bx : Nat} {v : Value} {A : List TkD} (hO : Owns G [bC bx v] w0) (hA : A.length ≤ 4294967296) (hit : IterO Tryd.prog G [bC bx v] (.func (.func 47) #[] #[.pointer (some ⟨bx, 0, none⟩)]) (A.map tkP)) :
    Calls Tryd.prog 46 #[.slice none 0 0, .func (.func 47) #[] #[.pointer (some ⟨bx, 0, none⟩)]] w0 (RetL w0 G [bC bx v] fun u G' L' => L' = [] ∧ RepV G' (.sl 3 (A.map TkD.dat)) u) := by
  have hml : maxLen = 9223372036854775807 := rfl
  refine enterL (N := 13) (T := [(0, _), (1, _)]) Tryd.func46 rfl Tryd.ntmps46 rfl rfl hO ?_
  intro a H
  refine c_seq (fun _ hK1 => ?_)
  refine c_region ?_
  refine s_box (cs := [_]) H wn rfl rfl rfl ?_; clear H; intro b2 a w hb2 H
  refine s_assign H wn rfl rfl ?_; clear H; intro a H
  refine wl_nil ?_
  refine hK1 _ _ ?_; clear hK1
  refine c_seq (fun _ hK2 => ?_)
  refine c_seq (fun _ hK3 => ?_)
  refine c_region ?_
  refine s_move H wn rfl rfl ?_; clear H; intro a H
  refine wl_nil ?_
  refine hK3 _ _ ?_; clear hK3
  refine c_block ?_
  skip
  refine c_rangeJO (B := [(_, _)]) (ι := Value × OL) (κ := Empty) (Lc := []) (fun (k : Nat) (gh : Value × OL) => [(b2, .cells #[gh.1] 60 (0, 0))]) (fun (k : Nat) (gh : Value × OL) => gh.2) (fun (k : Nat) (gh : Value × OL) (g : GH) => IsRow 66 3 gh.1 k ((A.take k).map TkD.cells).flatten gh.2) (fun x => x.elim) (fun x => x.elim) (fun x => x.elim) (fun x => x.elim) ((.slice none 0 0, [])) (by exact H.pickT (Pl := [_, _]) (Pl' := [_, _]) [1, 0] (by decide) rfl) rfl en47seg (hit) (fun _ _ h => h) rfl (fun k args g h => by obtain ⟨_, rfl⟩ := tkp_at h; rfl) (fun _ _ _ _ _ h => h) (fun x => x.elim) (IsRow.nil) ?_ ?_ ?_
  · clear H; intro l2 rdy bsy bk k args gh G2 w2 F2 B2 a hk2 hm2 hI hbeg2 hnext2 hstop2 H
    obtain ⟨u, Lo⟩ := gh; dsimp only at hI H
    obtain ⟨hk, rfl⟩ := tkp_at hk2
    dsimp only [asg, List.cons_append, List.nil_append] at H
    have hrw := hI
    refine c_region ?_
    refine s_alloc ty66seg H wn rfl ?_; clear H; intro b5 a w hb5 H
    refine s_store ty66seg 0 (vs := [_, _, _]) _ H wn rfl rfl rfl rfl rfl rfl rfl rfl ?_; clear H; intro w H; dsimp only [List.set, setRow] at H
    refine wl_nil ?_
    refine hbeg2 _ _ _ _ _ _ (by exact H.pickT (Pl := [_, _, _]) (Pl' := [_, _, _]) [1, 0, 2] (by decide) rfl) ?_; clear H; intro w H
    refine c_block ?_
    refine c_region ?_
    refine s_load ty60seg H wn rfl (H.hp.ocell 2 rfl rfl) rfl ?_; clear H; intro a H
    refine s_loada ty66seg (cs := [_, _, _]) H wn rfl rfl (H.hp.ocells 1 rfl rfl) rfl ?_; clear H; intro a H
    refine s_buildSlice un60seg ty66seg [_, _, _] [_, _, _] H wn rfl rfl rfl rfl rfl (by intro i q h; match i, h with | 0, h => exact h | n + 1, h => simp at h) rfl rfl ?_; clear H; intro b10 a w hb10 H
    have H := St.un (A := [_, _, _, _]) H
    refine s_append (Li := [_, _, _, _] ++ bk) (Lo := Lo) (news := [vi A[k].kind, vi A[k].from_, vi A[k].to]) un60seg ty66seg rfl rfl H wn rfl rfl hrw rfl (H.hp.ocells 0 rfl rfl) rfl (by omega) (by omega) rfl ?_; clear H; intro v11 Lo11 a w hrw11 H
    have H := H.assoc
    dsimp only [List.cons_append, List.nil_append] at H
    obtain ⟨vA11, vc11, e11, -, -⟩ := hrw11.shape
    subst e11
    refine s_store ty60seg 3 (vs := [_]) _ H wn rfl rfl rfl rfl rfl rfl rfl rfl ?_; clear H; intro w H; dsimp only [List.set, setRow] at H
    refine wl_nil ?_
    refine hnext2 ((.slice vA11 (k + 1) vc11, Lo11)) _ _ _ _ _ (by exact H.pickT (Pl := [_, _, _, _]) (Pl' := [_, _]) [1, 3] (by decide) rfl) ?_
    rw [List.take_succ_eq_append_getElem hk, List.map_append, List.flatten_append]
    exact hrw11
  · clear H; intro Dk2 gh Gd2 a w hm2 hI H
    obtain ⟨u, Lo⟩ := gh; dsimp only at hI H
    dsimp only [List.cons_append, List.nil_append, List.append_nil] at H
    have hrw := hI
    rw [List.length_map, List.take_of_length_le (Nat.le_refl _)] at hrw
    refine hK2 _ _ ?_; clear hK2
    refine c_seq (fun _ hK4 => ?_)
    refine c_region ?_
    refine s_load ty60seg H wn rfl (H.hp.ocell 1 rfl rfl) rfl ?_; clear H; intro a H
    refine s_assign H wn rfl rfl ?_; clear H; intro a H
    refine wl_nil ?_
    refine hK4 _ _ ?_; clear hK4
    refine c_ret ?_
    obtain ⟨Gr, hmr, hrep, H⟩ := St.giveRow (Li := [_, _]) (Lo := Lo) H hrw (rows := A.map TkD.dat) (by simp) (tks_cat _ _)
    refine (leaveM H 0 rfl ?_).1; clear H; intro a w H; dsimp only [List.eraseIdx_cons_succ, List.eraseIdx_cons_zero] at H
    refine (leave1 H Tryd.results46 (.cons (rv_tmp H rfl) .nil) ?_).1
    exact H.hp.retD (L' := []) (List.nil_sublist _) ⟨rfl, hrep⟩
  intro Dk x; exact x.elim
theorem collect_spec {G : GH} {w0 : World} {bx : Nat} {v : Value} {A : List TkD} (hO : Owns G [bC bx v] w0) (hA : A.length ≤ 4294967296) (hit : IterO Tryd.prog G [bC bx v] (.func (.func 47) #[] #[.pointer (some ⟨bx, 0, none⟩)]) (A.map tkP)) :
    Calls Tryd.prog 32 #[.func (.func 47) #[] #[.pointer (some ⟨bx, 0, none⟩)]] w0 (RetL w0 G [bC bx v] fun u G' L' => L' = [] ∧ RepV G' (.sl 3 (A.map TkD.dat)) u) := by
  refine enterL (N := 5) (T := [(0, _)]) Tryd.func32 rfl Tryd.ntmps32 rfl rfl hO ?_
  intro a H
  refine c_seq (fun _ hK1 => ?_)
  refine c_region ?_
  refine s_assign H wn rfl rfl ?_; clear H; intro a H
  refine wl_nil ?_
  refine hK1 _ _ ?_; clear hK1
  refine c_seq (fun _ hK2 => ?_)
  refine c_region ?_
  refine s_move H wn rfl rfl ?_; clear H; intro a H
  refine s_callL en46seg (Li := []) (L := [_]) H wn rfl (appendSeq_spec (Hp.owns (Li := []) H.hp) hA hit) rfl ?_; clear H
  rintro v4 G4 L4 a w ⟨rfl, hrep⟩ hm4 H
  refine s_assign H wn rfl rfl ?_; clear H; intro a H
  refine wl_nil ?_
  refine hK2 _ _ ?_; clear hK2
  refine c_ret ?_
  refine (leave1 H Tryd.results32 (.cons (rv_tmp H rfl) .nil) ?_).1
  exact H.hp.retL ⟨rfl, hrep⟩
theorem tokens_spec {G : GH} {w0 : World} (hO : Owns G [] w0) (l : List ClD) (v : Value) (hv : RepV G (.sl 3 (l.map ClD.dat)) v) :
    Calls Tryd.prog 33 #[v] w0 (RetL w0 G [] fun u G' L' => G = G' ∧ ∃ bx, u = .func (.func 47) #[] #[.pointer (some ⟨bx, 0, none⟩)] ∧ L' = [bC bx v]) := by
  obtain ⟨A, c, rfl, hc1, hc2, -⟩ := hv.slice
  refine enterL (N := 4) (T := [(0, _)]) Tryd.func33 rfl Tryd.ntmps33 rfl rfl hO ?_
  intro a H
  refine c_seq (fun _ hK1 => ?_)
  refine c_region ?_
  refine s_box (cs := [_]) H wn rfl rfl rfl ?_; clear H; intro b1 a w hb1 H
  refine s_assign H wn rfl rfl ?_; clear H; intro a H
  refine wl_nil ?_
  refine hK1 _ _ ?_; clear hK1
  refine c_seq (fun _ hK2 => ?_)
  refine c_region ?_
  refine s_makeFunc H wn rfl rfl ?_; clear H; intro a H
  refine s_assign H wn rfl rfl ?_; clear H; intro a H
  refine wl_nil ?_
  refine hK2 _ _ ?_; clear hK2
  refine c_ret ?_
  refine (leave1 H Tryd.results33 (.cons (rv_tmp H rfl) .nil) ?_).1
  exact H.hp.retL ⟨rfl, b1, rfl, rfl⟩
end Go.Proofs.YtpmcdlhhfbobfaaDoor
