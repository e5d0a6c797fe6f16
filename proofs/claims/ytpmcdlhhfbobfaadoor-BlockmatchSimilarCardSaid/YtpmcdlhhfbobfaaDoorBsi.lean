/-
  Package obeluslaw31: BlockmatchSimilar.
-/
import Derived.Test.YtpmcdlhhfbobfaaDoorBpr
import Derived.Test.YtpmcdlhhfbobfaaDoorSms
namespace Go.Proofs.YtpmcdlhhfbobfaaDoor
open Go.RowKit
theorem en17bsi : ∀ args w, (callFunc 17 args).run Tryd.prog w = .ok (.enter 17 args) w := enters Tryd.func17 rfl (by kernel_rfl)
theorem en19bsi : ∀ args w, (callFunc 19 args).run Tryd.prog w = .ok (.enter 19 args) w := enters Tryd.func19 rfl (by kernel_rfl)
theorem en28bsi : ∀ args w, (callFunc 28 args).run Tryd.prog w = .ok (.enter 28 args) w := enters Tryd.func28 rfl (by kernel_rfl)
theorem un9bsi : Tryd.prog.underlying 9 = some .string := by kernel_rfl
theorem en20bsi : ∀ args w, (callFunc 20 args).run Tryd.prog w = .ok (.enter 20 args) w := enters Tryd.func20 rfl (by kernel_rfl)
theorem en11bsi : ∀ args w, (callFunc 11 args).run Tryd.prog w = .ok (.enter 11 args) w := enters Tryd.func11 rfl (by kernel_rfl)
theorem en18bsi : ∀ args w, (callFunc 18 args).run Tryd.prog w = .ok (.enter 18 args) w := enters Tryd.func18 rfl (by kernel_rfl)
theorem en21bsi : ∀ args w, (callFunc 21 args).run Tryd.prog w = .ok (.enter 21 args) w := enters Tryd.func21 rfl (by kernel_rfl)
theorem bsim_bad (G : GH) (w0 : World) (hG : Hold G w0) (s t : ByteArray) (hz1 : s.size ≤ 2000) (hz2 : t.size ≤ 2000) (hb : ¬ (validS s = true ∧ validS t = true)) :
    Calls Tryd.prog 20 #[.string s, .string t] w0 (Ret w0 G fun u G' => u = .tuple #[vi 0, vi 12]) := by
  refine enter (N := 24) (T := [(0, _), (1, _)]) (F := fun k => k < w0.heap.size) (L := []) Tryd.func20 rfl Tryd.ntmps20 rfl rfl hG (fun _ h => h) (fun _ h => by cases h) (fun _ h => by cases h) (fun _ h => by cases h) List.Pairwise.nil ?_; intro a H; refine c_seq (fun _ hK1 => ?_); refine c_region ?_; (iterate 2 refine s_assign H wn rfl rfl ?_; clear H; intro a H); refine wl_nil ?_; refine hK1 _ _ ?_; clear hK1; refine c_seq (fun _ hK2 => ?_); refine c_region ?_; (iterate 2 refine s_move H wn rfl rfl ?_; clear H; intro a H); refine s_call en17bsi H wn rfl (btwo_bad _ _ H.hp.ro s t hz1 hz2 hb) rfl ?_; clear H; rintro v12 G12 a w rfl hm12 H; refine s_move H wn rfl rfl ?_; clear H; intro a H; (iterate 3 refine s_extract H wn rfl rfl rfl ?_; clear H; intro a H); (iterate 3 refine s_assign H wn rfl rfl ?_; clear H; intro a H); refine wl_nil ?_; refine hK2 _ _ ?_; clear hK2; refine c_seq (fun _ hK3 => ?_); refine c_seq (fun _ hK4 => ?_); refine c_region ?_; refine s_move H wn rfl rfl ?_; clear H; intro a H; refine s_cmp H wn rfl rfl rfl rfl ?_; clear H; intro a H; refine wl_nil ?_; refine hK4 _ _ ?_; clear hK4; refine c_cond H rfl ?_ ?_
  · intro h17
    try have p17 := of_decide_eq_true h17
    refine c_seq (fun _ hK5 => ?_); refine c_region ?_; refine s_move H wn rfl rfl ?_; clear H; intro a H; (iterate 2 refine s_assign H wn rfl rfl ?_; clear H; intro a H); refine wl_nil ?_; refine hK5 _ _ ?_; clear hK5; refine c_ret ?_; refine (leaveT H Tryd.results20 (.cons (rv_tmp H rfl) (.cons (rv_tmp H rfl) .nil)) ?_).1; exact H.hp.ret rfl
  intro h17
  try have p17 := of_decide_eq_false h17
  exact absurd h17 (by decide)
theorem msim_spec {G0 : GH} (G : GH) (w0 : World) (hG : Hold G w0) (h0 : ∀ b o, G0 b = some o → G b = some o) (s t : ByteArray) (hs : SOk G0 s) (ht : SOk G0 t) (hz1 : s.size ≤ 1000) (hz2 : t.size ≤ 1000) :
    Calls Tryd.prog 21 #[.string s, .string t] w0 (Ret w0 G fun u G' => u = vi (simS s t)) := by
  have hl1 := tkL_len s; have hl2 := tkL_len t; have ha := (tokP_all (tkL s) []).1; have hb := (tokP_all (tkL t) (tokP (tkL s) []).2).1; rw [show (tokP (tkL s) []).1 = twoA s from rfl] at ha; rw [show (tokP (tkL t) (tokP (tkL s) []).2).1 = twoB s t from rfl] at hb; refine enter (N := 22) (T := [(0, _), (1, _)]) (F := fun k => k < w0.heap.size) (L := []) Tryd.func21 rfl Tryd.ntmps21 rfl rfl hG (fun _ h => h) (fun _ h => by cases h) (fun _ h => by cases h) (fun _ h => by cases h) List.Pairwise.nil ?_; intro a H; refine c_seq (fun _ hK1 => ?_); refine c_region ?_; refine s_assign H wn rfl rfl ?_; clear H; intro a H; refine wl_nil ?_; refine hK1 _ _ ?_; clear hK1; refine c_seq (fun _ hK2 => ?_); refine c_region ?_; (iterate 2 refine s_move H wn rfl rfl ?_; clear H; intro a H); refine s_call en19bsi H wn rfl (mtokens_spec _ _ H.hp.ro h0 s t hs ht hz1 hz2) rfl ?_; clear H; rintro v12 G12 a w ⟨x12, y12, rfl, hx12, hy12⟩ hm12 H; refine s_move H wn rfl rfl ?_; clear H; intro a H; (iterate 2 refine s_extract H wn rfl rfl rfl ?_; clear H; intro a H); (iterate 2 refine s_assign H wn rfl rfl ?_; clear H; intro a H); refine wl_nil ?_; refine hK2 _ _ ?_; clear hK2; refine c_seq (fun _ hK3 => ?_); refine c_region ?_; (iterate 2 refine s_move H wn rfl rfl ?_; clear H; intro a H); refine s_call en28bsi H wn rfl (asim_spec _ _ H.hp.ro _ _ _ _ hx12 hy12 (by omega) (by omega) (twoA_ok s) (twoB_ok s t)) rfl ?_; clear H; rintro v18 G18 a w rfl hm18 H; refine s_move H wn rfl rfl ?_; clear H; intro a H; (iterate 2 refine s_extract H wn rfl rfl rfl ?_; clear H; intro a H); (iterate 2 refine s_assign H wn rfl rfl ?_; clear H; intro a H); refine wl_nil ?_; refine hK3 _ _ ?_; clear hK3; refine c_seq (fun _ hK4 => ?_); refine c_region ?_; refine s_move H wn rfl rfl ?_; clear H; intro a H; refine s_assign H wn rfl rfl ?_; clear H; intro a H; refine wl_nil ?_; refine hK4 _ _ ?_; clear hK4; refine c_ret ?_; refine (leave1 H Tryd.results21 (.cons (rv_tmp H rfl) .nil) ?_).1; exact H.hp.ret rfl
set_option maxHeartbeats 1000000 in
theorem similar_bad (G : GH) (w0 : World) (hG : Hold G w0) (s t : ByteArray) (hb : ¬ (validS (preS s) = true ∧ validS (preS t) = true)) (hs : s.size ≤ 9223372036854775807) (ht : t.size ≤ 9223372036854775807) :
    Calls Tryd.prog 8 #[.string s, .string t] w0 (Ret w0 G fun u G' => u = .bool true) := by
  have hs2 := preS_size s; have ht2 := preS_size t; refine enter (N := 101) (T := [(0, _), (1, _)]) (F := fun k => k < w0.heap.size) (L := []) Tryd.func8 rfl Tryd.ntmps8 rfl rfl hG (fun _ h => h) (fun _ h => by cases h) (fun _ h => by cases h) (fun _ h => by cases h) List.Pairwise.nil ?_; intro a H; refine c_seq (fun _ hK1 => ?_); refine c_region ?_; refine s_assign H wn rfl rfl ?_; clear H; intro a H; refine wl_nil ?_; refine hK1 _ _ ?_; clear hK1; refine c_seq (fun _ hK2 => ?_); have hvo0 := H.get 0 (.string s) rfl; have hvo1 := H.get 1 (.string t) rfl; have H := H.sub (T' := []) trivial; refine c_drawV (hmxb) [[], [], [1], [1, 2], [0, 1, 2, 3], [], [], [6], [6, 7], [5, 6, 7, 8], [0, 1, 2, 3, 4], [0, 1, 2, 3, 4, 5, 6, 7, 8, 9, 10]] (by kernel_rfl) ([(0, .string s, 10, false), (1, .string t, 11, false), (11, .string s, 0, true), (12, .string s, 1, true), (13, vi s.size, 2, true), (14, vi (min (s.size : Int) 200), 3, true), (15, .string (preS s), 4, true), (16, .string t, 5, true), (17, .string t, 6, true), (18, vi t.size, 7, true), (19, vi (min (t.size : Int) 200), 8, true), (20, .string (preS t), 9, true), (0, .string (preS s), 10, true), (1, .string (preS t), 11, true)]) H ?_ ?_ ?_
  · intro e he hS
    simp only [List.mem_cons, List.mem_nil_iff, or_false] at he
    rcases he with rfl | rfl | rfl | rfl | rfl | rfl | rfl | rfl | rfl | rfl | rfl | rfl | rfl | rfl
    · exact hvo0
    · exact hvo1
    · exact absurd (show false = true from hS) (by decide)
    · exact absurd (show false = true from hS) (by decide)
    · exact absurd (show false = true from hS) (by decide)
    · exact absurd (show false = true from hS) (by decide)
    · exact absurd (show false = true from hS) (by decide)
    · exact absurd (show false = true from hS) (by decide)
    · exact absurd (show false = true from hS) (by decide)
    · exact absurd (show false = true from hS) (by decide)
    · exact absurd (show false = true from hS) (by decide)
    · exact absurd (show false = true from hS) (by decide)
    · exact absurd (show false = true from hS) (by decide)
    exact absurd (show false = true from hS) (by decide)
  · clear H; refine (allI_cons ?_ (allI_cons ?_ (allI_cons ?_ (allI_cons ?_ (allI_cons ?_ (allI_cons ?_ (allI_cons ?_ (allI_cons ?_ (allI_cons ?_ (allI_cons ?_ (allI_cons ?_ (allI_cons ?_ allI_nil))))))))))))
    · intro Sd_ a w hSi hc hd HT hE; have H := HT; have H := H.addS (hE.at 0 rfl (hd 10 (by decide) (by decide))); have Hb := H.full; have H := Hb; clear hc; refine s_move H wn rfl rfl ?_; clear H; intro a H; refine wl_nil ⟨rfl, ?_⟩; refine drawV_val (by kernel_rfl) ?_ HT Hb hE H; intro e he h1 h2
      simp only [List.mem_cons, List.mem_nil_iff, or_false] at he
      rcases he with rfl | rfl | rfl | rfl | rfl | rfl | rfl | rfl | rfl | rfl | rfl | rfl | rfl | rfl
      · exact absurd (show false = true from h2) (by decide)
      · exact absurd (show false = true from h2) (by decide)
      · exact (rfl)
      · exact absurd (show (12 : Nat) = 11 from h1) (by decide)
      · exact absurd (show (13 : Nat) = 11 from h1) (by decide)
      · exact absurd (show (14 : Nat) = 11 from h1) (by decide)
      · exact absurd (show (15 : Nat) = 11 from h1) (by decide)
      · exact absurd (show (16 : Nat) = 11 from h1) (by decide)
      · exact absurd (show (17 : Nat) = 11 from h1) (by decide)
      · exact absurd (show (18 : Nat) = 11 from h1) (by decide)
      · exact absurd (show (19 : Nat) = 11 from h1) (by decide)
      · exact absurd (show (20 : Nat) = 11 from h1) (by decide)
      · exact absurd (show (0 : Nat) = 11 from h1) (by decide)
      exact absurd (show (1 : Nat) = 11 from h1) (by decide)
    · intro Sd_ a w hSi hc hd HT hE; have H := HT; have H := H.addS (hE.at 0 rfl (hd 10 (by decide) (by decide))); have Hb := H.full; have H := Hb; clear hc; refine s_move H wn rfl rfl ?_; clear H; intro a H; refine wl_nil ⟨rfl, ?_⟩; refine drawV_val (by kernel_rfl) ?_ HT Hb hE H; intro e he h1 h2
      simp only [List.mem_cons, List.mem_nil_iff, or_false] at he
      rcases he with rfl | rfl | rfl | rfl | rfl | rfl | rfl | rfl | rfl | rfl | rfl | rfl | rfl | rfl
      · exact absurd (show false = true from h2) (by decide)
      · exact absurd (show false = true from h2) (by decide)
      · exact absurd (show (11 : Nat) = 12 from h1) (by decide)
      · exact (rfl)
      · exact absurd (show (13 : Nat) = 12 from h1) (by decide)
      · exact absurd (show (14 : Nat) = 12 from h1) (by decide)
      · exact absurd (show (15 : Nat) = 12 from h1) (by decide)
      · exact absurd (show (16 : Nat) = 12 from h1) (by decide)
      · exact absurd (show (17 : Nat) = 12 from h1) (by decide)
      · exact absurd (show (18 : Nat) = 12 from h1) (by decide)
      · exact absurd (show (19 : Nat) = 12 from h1) (by decide)
      · exact absurd (show (20 : Nat) = 12 from h1) (by decide)
      · exact absurd (show (0 : Nat) = 12 from h1) (by decide)
      exact absurd (show (1 : Nat) = 12 from h1) (by decide)
    · intro Sd_ a w hSi hc hd HT hE; have H := HT; have H := H.addS (hE.at 3 rfl (hc 1 (by decide))); have Hb := H.full; have H := Hb; clear hc; refine s_lens un9bsi H wn rfl rfl ?_; clear H; intro a H; refine wl_nil ⟨rfl, ?_⟩; refine drawV_val (by kernel_rfl) ?_ HT Hb hE H; intro e he h1 h2
      simp only [List.mem_cons, List.mem_nil_iff, or_false] at he
      rcases he with rfl | rfl | rfl | rfl | rfl | rfl | rfl | rfl | rfl | rfl | rfl | rfl | rfl | rfl
      · exact absurd (show false = true from h2) (by decide)
      · exact absurd (show false = true from h2) (by decide)
      · exact absurd (show (11 : Nat) = 13 from h1) (by decide)
      · exact absurd (show (12 : Nat) = 13 from h1) (by decide)
      · exact (rfl)
      · exact absurd (show (14 : Nat) = 13 from h1) (by decide)
      · exact absurd (show (15 : Nat) = 13 from h1) (by decide)
      · exact absurd (show (16 : Nat) = 13 from h1) (by decide)
      · exact absurd (show (17 : Nat) = 13 from h1) (by decide)
      · exact absurd (show (18 : Nat) = 13 from h1) (by decide)
      · exact absurd (show (19 : Nat) = 13 from h1) (by decide)
      · exact absurd (show (20 : Nat) = 13 from h1) (by decide)
      · exact absurd (show (0 : Nat) = 13 from h1) (by decide)
      exact absurd (show (1 : Nat) = 13 from h1) (by decide)
    · intro Sd_ a w hSi hc hd HT hE; have H := HT; have H := H.addS (hE.at 4 rfl (hc 2 (by decide))); have Hb := H.full; have H := Hb; clear hc; refine s_min H wn rfl rfl rfl ?_; clear H; intro a H; refine wl_nil ⟨rfl, ?_⟩; refine drawV_val (by kernel_rfl) ?_ HT Hb hE H; intro e he h1 h2
      simp only [List.mem_cons, List.mem_nil_iff, or_false] at he
      rcases he with rfl | rfl | rfl | rfl | rfl | rfl | rfl | rfl | rfl | rfl | rfl | rfl | rfl | rfl
      · exact absurd (show false = true from h2) (by decide)
      · exact absurd (show false = true from h2) (by decide)
      · exact absurd (show (11 : Nat) = 14 from h1) (by decide)
      · exact absurd (show (12 : Nat) = 14 from h1) (by decide)
      · exact absurd (show (13 : Nat) = 14 from h1) (by decide)
      · exact (rfl)
      · exact absurd (show (15 : Nat) = 14 from h1) (by decide)
      · exact absurd (show (16 : Nat) = 14 from h1) (by decide)
      · exact absurd (show (17 : Nat) = 14 from h1) (by decide)
      · exact absurd (show (18 : Nat) = 14 from h1) (by decide)
      · exact absurd (show (19 : Nat) = 14 from h1) (by decide)
      · exact absurd (show (20 : Nat) = 14 from h1) (by decide)
      · exact absurd (show (0 : Nat) = 14 from h1) (by decide)
      exact absurd (show (1 : Nat) = 14 from h1) (by decide)
    · intro Sd_ a w hSi hc hd HT hE; have H := HT; have H := H.addS (hE.at 2 rfl (hc 0 (by decide))); have H := H.addS (hE.at 5 rfl (hc 3 (by decide))); have Hb := H.full; have H := Hb; clear hc; refine s_strTo (min s.size 200) un9bsi H wn rfl rfl (by omega) (by omega) rfl ?_; clear H; intro a H; refine wl_nil ⟨rfl, ?_⟩; refine drawV_val (by kernel_rfl) ?_ HT Hb hE H; intro e he h1 h2
      simp only [List.mem_cons, List.mem_nil_iff, or_false] at he
      rcases he with rfl | rfl | rfl | rfl | rfl | rfl | rfl | rfl | rfl | rfl | rfl | rfl | rfl | rfl
      · exact absurd (show false = true from h2) (by decide)
      · exact absurd (show false = true from h2) (by decide)
      · exact absurd (show (11 : Nat) = 15 from h1) (by decide)
      · exact absurd (show (12 : Nat) = 15 from h1) (by decide)
      · exact absurd (show (13 : Nat) = 15 from h1) (by decide)
      · exact absurd (show (14 : Nat) = 15 from h1) (by decide)
      · exact (rfl)
      · exact absurd (show (16 : Nat) = 15 from h1) (by decide)
      · exact absurd (show (17 : Nat) = 15 from h1) (by decide)
      · exact absurd (show (18 : Nat) = 15 from h1) (by decide)
      · exact absurd (show (19 : Nat) = 15 from h1) (by decide)
      · exact absurd (show (20 : Nat) = 15 from h1) (by decide)
      · exact absurd (show (0 : Nat) = 15 from h1) (by decide)
      exact absurd (show (1 : Nat) = 15 from h1) (by decide)
    · intro Sd_ a w hSi hc hd HT hE; have H := HT; have H := H.addS (hE.at 1 rfl (hd 11 (by decide) (by decide))); have Hb := H.full; have H := Hb; clear hc; refine s_move H wn rfl rfl ?_; clear H; intro a H; refine wl_nil ⟨rfl, ?_⟩; refine drawV_val (by kernel_rfl) ?_ HT Hb hE H; intro e he h1 h2
      simp only [List.mem_cons, List.mem_nil_iff, or_false] at he
      rcases he with rfl | rfl | rfl | rfl | rfl | rfl | rfl | rfl | rfl | rfl | rfl | rfl | rfl | rfl
      · exact absurd (show false = true from h2) (by decide)
      · exact absurd (show false = true from h2) (by decide)
      · exact absurd (show (11 : Nat) = 16 from h1) (by decide)
      · exact absurd (show (12 : Nat) = 16 from h1) (by decide)
      · exact absurd (show (13 : Nat) = 16 from h1) (by decide)
      · exact absurd (show (14 : Nat) = 16 from h1) (by decide)
      · exact absurd (show (15 : Nat) = 16 from h1) (by decide)
      · exact (rfl)
      · exact absurd (show (17 : Nat) = 16 from h1) (by decide)
      · exact absurd (show (18 : Nat) = 16 from h1) (by decide)
      · exact absurd (show (19 : Nat) = 16 from h1) (by decide)
      · exact absurd (show (20 : Nat) = 16 from h1) (by decide)
      · exact absurd (show (0 : Nat) = 16 from h1) (by decide)
      exact absurd (show (1 : Nat) = 16 from h1) (by decide)
    · intro Sd_ a w hSi hc hd HT hE; have H := HT; have H := H.addS (hE.at 1 rfl (hd 11 (by decide) (by decide))); have Hb := H.full; have H := Hb; clear hc; refine s_move H wn rfl rfl ?_; clear H; intro a H; refine wl_nil ⟨rfl, ?_⟩; refine drawV_val (by kernel_rfl) ?_ HT Hb hE H; intro e he h1 h2
      simp only [List.mem_cons, List.mem_nil_iff, or_false] at he
      rcases he with rfl | rfl | rfl | rfl | rfl | rfl | rfl | rfl | rfl | rfl | rfl | rfl | rfl | rfl
      · exact absurd (show false = true from h2) (by decide)
      · exact absurd (show false = true from h2) (by decide)
      · exact absurd (show (11 : Nat) = 17 from h1) (by decide)
      · exact absurd (show (12 : Nat) = 17 from h1) (by decide)
      · exact absurd (show (13 : Nat) = 17 from h1) (by decide)
      · exact absurd (show (14 : Nat) = 17 from h1) (by decide)
      · exact absurd (show (15 : Nat) = 17 from h1) (by decide)
      · exact absurd (show (16 : Nat) = 17 from h1) (by decide)
      · exact (rfl)
      · exact absurd (show (18 : Nat) = 17 from h1) (by decide)
      · exact absurd (show (19 : Nat) = 17 from h1) (by decide)
      · exact absurd (show (20 : Nat) = 17 from h1) (by decide)
      · exact absurd (show (0 : Nat) = 17 from h1) (by decide)
      exact absurd (show (1 : Nat) = 17 from h1) (by decide)
    · intro Sd_ a w hSi hc hd HT hE; have H := HT; have H := H.addS (hE.at 8 rfl (hc 6 (by decide))); have Hb := H.full; have H := Hb; clear hc; refine s_lens un9bsi H wn rfl rfl ?_; clear H; intro a H; refine wl_nil ⟨rfl, ?_⟩; refine drawV_val (by kernel_rfl) ?_ HT Hb hE H; intro e he h1 h2
      simp only [List.mem_cons, List.mem_nil_iff, or_false] at he
      rcases he with rfl | rfl | rfl | rfl | rfl | rfl | rfl | rfl | rfl | rfl | rfl | rfl | rfl | rfl
      · exact absurd (show false = true from h2) (by decide)
      · exact absurd (show false = true from h2) (by decide)
      · exact absurd (show (11 : Nat) = 18 from h1) (by decide)
      · exact absurd (show (12 : Nat) = 18 from h1) (by decide)
      · exact absurd (show (13 : Nat) = 18 from h1) (by decide)
      · exact absurd (show (14 : Nat) = 18 from h1) (by decide)
      · exact absurd (show (15 : Nat) = 18 from h1) (by decide)
      · exact absurd (show (16 : Nat) = 18 from h1) (by decide)
      · exact absurd (show (17 : Nat) = 18 from h1) (by decide)
      · exact (rfl)
      · exact absurd (show (19 : Nat) = 18 from h1) (by decide)
      · exact absurd (show (20 : Nat) = 18 from h1) (by decide)
      · exact absurd (show (0 : Nat) = 18 from h1) (by decide)
      exact absurd (show (1 : Nat) = 18 from h1) (by decide)
    · intro Sd_ a w hSi hc hd HT hE; have H := HT; have H := H.addS (hE.at 9 rfl (hc 7 (by decide))); have Hb := H.full; have H := Hb; clear hc; refine s_min H wn rfl rfl rfl ?_; clear H; intro a H; refine wl_nil ⟨rfl, ?_⟩; refine drawV_val (by kernel_rfl) ?_ HT Hb hE H; intro e he h1 h2
      simp only [List.mem_cons, List.mem_nil_iff, or_false] at he
      rcases he with rfl | rfl | rfl | rfl | rfl | rfl | rfl | rfl | rfl | rfl | rfl | rfl | rfl | rfl
      · exact absurd (show false = true from h2) (by decide)
      · exact absurd (show false = true from h2) (by decide)
      · exact absurd (show (11 : Nat) = 19 from h1) (by decide)
      · exact absurd (show (12 : Nat) = 19 from h1) (by decide)
      · exact absurd (show (13 : Nat) = 19 from h1) (by decide)
      · exact absurd (show (14 : Nat) = 19 from h1) (by decide)
      · exact absurd (show (15 : Nat) = 19 from h1) (by decide)
      · exact absurd (show (16 : Nat) = 19 from h1) (by decide)
      · exact absurd (show (17 : Nat) = 19 from h1) (by decide)
      · exact absurd (show (18 : Nat) = 19 from h1) (by decide)
      · exact (rfl)
      · exact absurd (show (20 : Nat) = 19 from h1) (by decide)
      · exact absurd (show (0 : Nat) = 19 from h1) (by decide)
      exact absurd (show (1 : Nat) = 19 from h1) (by decide)
    · intro Sd_ a w hSi hc hd HT hE; have H := HT; have H := H.addS (hE.at 7 rfl (hc 5 (by decide))); have H := H.addS (hE.at 10 rfl (hc 8 (by decide))); have Hb := H.full; have H := Hb; clear hc; refine s_strTo (min t.size 200) un9bsi H wn rfl rfl (by omega) (by omega) rfl ?_; clear H; intro a H; refine wl_nil ⟨rfl, ?_⟩; refine drawV_val (by kernel_rfl) ?_ HT Hb hE H; intro e he h1 h2
      simp only [List.mem_cons, List.mem_nil_iff, or_false] at he
      rcases he with rfl | rfl | rfl | rfl | rfl | rfl | rfl | rfl | rfl | rfl | rfl | rfl | rfl | rfl
      · exact absurd (show false = true from h2) (by decide)
      · exact absurd (show false = true from h2) (by decide)
      · exact absurd (show (11 : Nat) = 20 from h1) (by decide)
      · exact absurd (show (12 : Nat) = 20 from h1) (by decide)
      · exact absurd (show (13 : Nat) = 20 from h1) (by decide)
      · exact absurd (show (14 : Nat) = 20 from h1) (by decide)
      · exact absurd (show (15 : Nat) = 20 from h1) (by decide)
      · exact absurd (show (16 : Nat) = 20 from h1) (by decide)
      · exact absurd (show (17 : Nat) = 20 from h1) (by decide)
      · exact absurd (show (18 : Nat) = 20 from h1) (by decide)
      · exact absurd (show (19 : Nat) = 20 from h1) (by decide)
      · exact (rfl)
      · exact absurd (show (0 : Nat) = 20 from h1) (by decide)
      exact absurd (show (1 : Nat) = 20 from h1) (by decide)
    · intro Sd_ a w hSi hc hd HT hE; have H := HT; have H := H.addS (hE.at 6 rfl (hc 4 (by decide))); have Hb := H.full; have H := Hb; clear hc; refine s_assign H wn rfl rfl ?_; clear H; intro a H; refine wl_nil ⟨rfl, ?_⟩; refine drawV_val (by kernel_rfl) ?_ HT Hb hE H; intro e he h1 h2
      simp only [List.mem_cons, List.mem_nil_iff, or_false] at he
      rcases he with rfl | rfl | rfl | rfl | rfl | rfl | rfl | rfl | rfl | rfl | rfl | rfl | rfl | rfl
      · exact absurd (show false = true from h2) (by decide)
      · exact absurd (show false = true from h2) (by decide)
      · exact absurd (show (11 : Nat) = 0 from h1) (by decide)
      · exact absurd (show (12 : Nat) = 0 from h1) (by decide)
      · exact absurd (show (13 : Nat) = 0 from h1) (by decide)
      · exact absurd (show (14 : Nat) = 0 from h1) (by decide)
      · exact absurd (show (15 : Nat) = 0 from h1) (by decide)
      · exact absurd (show (16 : Nat) = 0 from h1) (by decide)
      · exact absurd (show (17 : Nat) = 0 from h1) (by decide)
      · exact absurd (show (18 : Nat) = 0 from h1) (by decide)
      · exact absurd (show (19 : Nat) = 0 from h1) (by decide)
      · exact absurd (show (20 : Nat) = 0 from h1) (by decide)
      · exact (rfl)
      exact absurd (show (1 : Nat) = 0 from h1) (by decide)
    intro Sd_ a w hSi hc hd HT hE; have H := HT; have H := H.addS (hE.at 11 rfl (hc 9 (by decide))); have Hb := H.full; have H := Hb; clear hc; refine s_assign H wn rfl rfl ?_; clear H; intro a H; refine wl_nil ⟨rfl, ?_⟩; refine drawV_val (by kernel_rfl) ?_ HT Hb hE H; intro e he h1 h2
    simp only [List.mem_cons, List.mem_nil_iff, or_false] at he
    rcases he with rfl | rfl | rfl | rfl | rfl | rfl | rfl | rfl | rfl | rfl | rfl | rfl | rfl | rfl
    · exact absurd (show false = true from h2) (by decide)
    · exact absurd (show false = true from h2) (by decide)
    · exact absurd (show (11 : Nat) = 1 from h1) (by decide)
    · exact absurd (show (12 : Nat) = 1 from h1) (by decide)
    · exact absurd (show (13 : Nat) = 1 from h1) (by decide)
    · exact absurd (show (14 : Nat) = 1 from h1) (by decide)
    · exact absurd (show (15 : Nat) = 1 from h1) (by decide)
    · exact absurd (show (16 : Nat) = 1 from h1) (by decide)
    · exact absurd (show (17 : Nat) = 1 from h1) (by decide)
    · exact absurd (show (18 : Nat) = 1 from h1) (by decide)
    · exact absurd (show (19 : Nat) = 1 from h1) (by decide)
    · exact absurd (show (20 : Nat) = 1 from h1) (by decide)
    · exact absurd (show (0 : Nat) = 1 from h1) (by decide)
    exact (rfl)
  clear H; intro Sd_ a w hall H hE; have H := H.addS (hE.at 12 rfl (hall 10 (by decide))); have H := H.addS (hE.at 13 rfl (hall 11 (by decide))); clear hE hall; skip; refine hK2 _ _ ?_; clear hK2; refine c_seq (fun _ hK3 => ?_); refine c_region ?_; (iterate 2 refine s_move H wn rfl rfl ?_; clear H; intro a H); refine s_call en20bsi H wn rfl (bsim_bad _ _ H.hp.ro _ _ (by omega) (by omega) hb) rfl ?_; clear H; rintro v24 G24 a w rfl hm24 H; refine s_move H wn rfl rfl ?_; clear H; intro a H; (iterate 2 refine s_extract H wn rfl rfl rfl ?_; clear H; intro a H); (iterate 2 refine s_assign H wn rfl rfl ?_; clear H; intro a H); refine wl_nil ?_; refine hK3 _ _ ?_; clear hK3; refine c_seq (fun _ hK4 => ?_); refine c_region ?_; (iterate 2 refine s_move H wn rfl rfl ?_; clear H; intro a H); refine s_call en20bsi H wn rfl (bsim_bad _ _ H.hp.ro _ _ (by omega) (by omega) (fun h => hb ⟨h.2, h.1⟩)) rfl ?_; clear H; rintro v30 G30 a w rfl hm30 H; refine s_move H wn rfl rfl ?_; clear H; intro a H; (iterate 2 refine s_extract H wn rfl rfl rfl ?_; clear H; intro a H); (iterate 2 refine s_assign H wn rfl rfl ?_; clear H; intro a H); refine wl_nil ?_; refine hK4 _ _ ?_; clear hK4; refine c_seq (fun _ hK5 => ?_); refine c_seq (fun _ hK6 => ?_); refine c_region ?_; refine s_move H wn rfl rfl ?_; clear H; intro a H; refine s_call en18bsi H wn rfl (valid_spec _ _ H.hp.ro _ (by omega)) rfl ?_; clear H; rintro v34 _ a w ⟨rfl, rfl⟩ - H; refine s_not H wn rfl rfl ?_; clear H; intro a H; refine s_move H wn rfl rfl ?_; clear H; intro a H; refine s_split H 36 rfl ?_ ?_
  · intro h36
    try have p36 := of_decide_eq_true h36
    (iterate 3 refine s_skip H rfl rfl h36 rfl ?_; clear H; intro a H); refine s_pick_t H wn rfl h36 rfl rfl ?_; clear H; intro a H; refine wl_nil ?_; refine hK6 _ _ ?_; clear hK6; refine c_cond_t H rfl rfl ?_; refine c_seq (fun _ hK7 => ?_); refine c_region ?_; refine s_call en11bsi H wn rfl (known_spec _ _ H.hp.ro) rfl ?_; clear H; rintro v41 G41 a w rfl hm41 H; refine s_move H wn rfl rfl ?_; clear H; intro a H; refine s_split H 42 rfl ?_ ?_
    · intro h42
      try have p42 := of_decide_eq_true h42
      refine s_move H (wg H rfl rfl h42) rfl rfl ?_; clear H; intro a H; refine s_cmp H (wg H rfl rfl h42) rfl rfl rfl rfl ?_; clear H; intro a H; refine s_pick_t H wn rfl h42 rfl rfl ?_; clear H; intro a H; refine s_move H wn rfl rfl ?_; clear H; intro a H; refine s_split H 46 rfl ?_ ?_
      · intro h46
        try have p46 := of_decide_eq_true h46
        refine s_move H (wg H rfl rfl h46) rfl rfl ?_; clear H; intro a H; refine s_cmp H (wg H rfl rfl h46) rfl rfl rfl rfl ?_; clear H; intro a H; refine s_pick_t H wn rfl h46 rfl rfl ?_; clear H; intro a H; refine s_move H wn rfl rfl ?_; clear H; intro a H; refine s_split H 50 rfl ?_ ?_
        · intro h50
          try have p50 := of_decide_eq_true h50
          refine s_move H (wg H rfl rfl h50) rfl rfl ?_; clear H; intro a H; refine s_cmp H (wg H rfl rfl h50) rfl rfl rfl rfl ?_; clear H; intro a H; refine s_pick_t H wn rfl h50 rfl rfl ?_; clear H; intro a H; refine s_move H wn rfl rfl ?_; clear H; intro a H; refine s_split H 54 rfl ?_ ?_
          · intro h54
            try have p54 := of_decide_eq_true h54
            refine s_move H (wg H rfl rfl h54) rfl rfl ?_; clear H; intro a H; refine s_cmp H (wg H rfl rfl h54) rfl rfl rfl rfl ?_; clear H; intro a H; refine s_pick_t H wn rfl h54 rfl rfl ?_; clear H; intro a H; refine s_assign H wn rfl rfl ?_; clear H; intro a H; refine wl_nil ?_; refine hK7 _ _ ?_; clear hK7; refine c_ret ?_; refine (leave1 H Tryd.results8 (.cons (rv_tmp H rfl) .nil) ?_).1; exact H.hp.ret rfl
          intro h54
          try have p54 := of_decide_eq_false h54
          exact absurd h54 (by decide)
        intro h50
        try have p50 := of_decide_eq_false h50
        exact absurd h50 (by decide)
      intro h46
      try have p46 := of_decide_eq_false h46
      exact absurd h46 (by decide)
    intro h42
    try have p42 := of_decide_eq_false h42
    exact absurd h42 (by decide)
  intro h36
  try have p36 := of_decide_eq_false h36
  refine s_move H (wg H rfl rfl h36) rfl rfl ?_; clear H; intro a H; refine s_call en18bsi H (wg H rfl rfl h36) rfl (valid_spec _ _ H.hp.ro _ (by omega)) rfl ?_; clear H; rintro v38 _ a w ⟨rfl, rfl⟩ - H; refine s_not H (wg H rfl rfl h36) rfl rfl ?_; clear H; intro a H; refine s_pick_f H wn rfl h36 rfl rfl ?_; clear H; intro a H; refine wl_nil ?_; refine hK6 _ _ ?_; clear hK6; refine c_cond H rfl ?_ ?_
  · intro h40
    try have p40 := of_decide_eq_true h40
    refine c_seq (fun _ hK8 => ?_); refine c_region ?_; refine s_call en11bsi H wn rfl (known_spec _ _ H.hp.ro) rfl ?_; clear H; rintro v41 G41 a w rfl hm41 H; refine s_move H wn rfl rfl ?_; clear H; intro a H; refine s_split H 42 rfl ?_ ?_
    · intro h42
      try have p42 := of_decide_eq_true h42
      refine s_move H (wg H rfl rfl h42) rfl rfl ?_; clear H; intro a H; refine s_cmp H (wg H rfl rfl h42) rfl rfl rfl rfl ?_; clear H; intro a H; refine s_pick_t H wn rfl h42 rfl rfl ?_; clear H; intro a H; refine s_move H wn rfl rfl ?_; clear H; intro a H; refine s_split H 46 rfl ?_ ?_
      · intro h46
        try have p46 := of_decide_eq_true h46
        refine s_move H (wg H rfl rfl h46) rfl rfl ?_; clear H; intro a H; refine s_cmp H (wg H rfl rfl h46) rfl rfl rfl rfl ?_; clear H; intro a H; refine s_pick_t H wn rfl h46 rfl rfl ?_; clear H; intro a H; refine s_move H wn rfl rfl ?_; clear H; intro a H; refine s_split H 50 rfl ?_ ?_
        · intro h50
          try have p50 := of_decide_eq_true h50
          refine s_move H (wg H rfl rfl h50) rfl rfl ?_; clear H; intro a H; refine s_cmp H (wg H rfl rfl h50) rfl rfl rfl rfl ?_; clear H; intro a H; refine s_pick_t H wn rfl h50 rfl rfl ?_; clear H; intro a H; refine s_move H wn rfl rfl ?_; clear H; intro a H; refine s_split H 54 rfl ?_ ?_
          · intro h54
            try have p54 := of_decide_eq_true h54
            refine s_move H (wg H rfl rfl h54) rfl rfl ?_; clear H; intro a H; refine s_cmp H (wg H rfl rfl h54) rfl rfl rfl rfl ?_; clear H; intro a H; refine s_pick_t H wn rfl h54 rfl rfl ?_; clear H; intro a H; refine s_assign H wn rfl rfl ?_; clear H; intro a H; refine wl_nil ?_; refine hK8 _ _ ?_; clear hK8; refine c_ret ?_; refine (leave1 H Tryd.results8 (.cons (rv_tmp H rfl) .nil) ?_).1; exact H.hp.ret rfl
          intro h54
          try have p54 := of_decide_eq_false h54
          exact absurd h54 (by decide)
        intro h50
        try have p50 := of_decide_eq_false h50
        exact absurd h50 (by decide)
      intro h46
      try have p46 := of_decide_eq_false h46
      exact absurd h46 (by decide)
    intro h42
    try have p42 := of_decide_eq_false h42
    exact absurd h42 (by decide)
  intro h40
  try have p40 := of_decide_eq_false h40
  exact absurd (show validS (preS s) = true ∧ validS (preS t) = true from ⟨by simpa using h36, by simpa using h40⟩) hb
set_option maxHeartbeats 1000000 in
theorem similar_ok (G : GH) (w0 : World) (hG : Hold G w0) (hT : TabsG G) (s t : ByteArray) (hb : validS (preS s) = true ∧ validS (preS t) = true) (hs : s.size ≤ 9223372036854775807) (ht : t.size ≤ 9223372036854775807) :
    Calls Tryd.prog 8 #[.string s, .string t] w0 (Ret w0 G fun u G' => u = .bool true) := by
  have hs2 := preS_size s; have ht2 := preS_size t; have okS : SOk G (preS s) := sok_valid hT (by omega) hb.1; have okT : SOk G (preS t) := sok_valid hT (by omega) hb.2; have hin := simS_in (preS s) (preS t); have hsy := simS_sym (preS t) (preS s); have hsa := simS_same (preS s); obtain ⟨n, hn⟩ : ∃ n, n = simS (preS s) (preS t) := ⟨_, rfl⟩; rw [← hn] at hin hsy; refine enter (N := 101) (T := [(0, _), (1, _)]) (F := fun k => k < w0.heap.size) (L := []) Tryd.func8 rfl Tryd.ntmps8 rfl rfl hG (fun _ h => h) (fun _ h => by cases h) (fun _ h => by cases h) (fun _ h => by cases h) List.Pairwise.nil ?_; intro a H; refine c_seq (fun _ hK1 => ?_); refine c_region ?_; refine s_assign H wn rfl rfl ?_; clear H; intro a H; refine wl_nil ?_; refine hK1 _ _ ?_; clear hK1; refine c_seq (fun _ hK2 => ?_); have hvo0 := H.get 0 (.string s) rfl; have hvo1 := H.get 1 (.string t) rfl; have H := H.sub (T' := []) trivial; refine c_drawV (hmxb) [[], [], [1], [1, 2], [0, 1, 2, 3], [], [], [6], [6, 7], [5, 6, 7, 8], [0, 1, 2, 3, 4], [0, 1, 2, 3, 4, 5, 6, 7, 8, 9, 10]] (by kernel_rfl) ([(0, .string s, 10, false), (1, .string t, 11, false), (11, .string s, 0, true), (12, .string s, 1, true), (13, vi s.size, 2, true), (14, vi (min (s.size : Int) 200), 3, true), (15, .string (preS s), 4, true), (16, .string t, 5, true), (17, .string t, 6, true), (18, vi t.size, 7, true), (19, vi (min (t.size : Int) 200), 8, true), (20, .string (preS t), 9, true), (0, .string (preS s), 10, true), (1, .string (preS t), 11, true)]) H ?_ ?_ ?_
  · intro e he hS
    simp only [List.mem_cons, List.mem_nil_iff, or_false] at he
    rcases he with rfl | rfl | rfl | rfl | rfl | rfl | rfl | rfl | rfl | rfl | rfl | rfl | rfl | rfl
    · exact hvo0
    · exact hvo1
    · exact absurd (show false = true from hS) (by decide)
    · exact absurd (show false = true from hS) (by decide)
    · exact absurd (show false = true from hS) (by decide)
    · exact absurd (show false = true from hS) (by decide)
    · exact absurd (show false = true from hS) (by decide)
    · exact absurd (show false = true from hS) (by decide)
    · exact absurd (show false = true from hS) (by decide)
    · exact absurd (show false = true from hS) (by decide)
    · exact absurd (show false = true from hS) (by decide)
    · exact absurd (show false = true from hS) (by decide)
    · exact absurd (show false = true from hS) (by decide)
    exact absurd (show false = true from hS) (by decide)
  · clear H; refine (allI_cons ?_ (allI_cons ?_ (allI_cons ?_ (allI_cons ?_ (allI_cons ?_ (allI_cons ?_ (allI_cons ?_ (allI_cons ?_ (allI_cons ?_ (allI_cons ?_ (allI_cons ?_ (allI_cons ?_ allI_nil))))))))))))
    · intro Sd_ a w hSi hc hd HT hE; have H := HT; have H := H.addS (hE.at 0 rfl (hd 10 (by decide) (by decide))); have Hb := H.full; have H := Hb; clear hc; refine s_move H wn rfl rfl ?_; clear H; intro a H; refine wl_nil ⟨rfl, ?_⟩; refine drawV_val (by kernel_rfl) ?_ HT Hb hE H; intro e he h1 h2
      simp only [List.mem_cons, List.mem_nil_iff, or_false] at he
      rcases he with rfl | rfl | rfl | rfl | rfl | rfl | rfl | rfl | rfl | rfl | rfl | rfl | rfl | rfl
      · exact absurd (show false = true from h2) (by decide)
      · exact absurd (show false = true from h2) (by decide)
      · exact (rfl)
      · exact absurd (show (12 : Nat) = 11 from h1) (by decide)
      · exact absurd (show (13 : Nat) = 11 from h1) (by decide)
      · exact absurd (show (14 : Nat) = 11 from h1) (by decide)
      · exact absurd (show (15 : Nat) = 11 from h1) (by decide)
      · exact absurd (show (16 : Nat) = 11 from h1) (by decide)
      · exact absurd (show (17 : Nat) = 11 from h1) (by decide)
      · exact absurd (show (18 : Nat) = 11 from h1) (by decide)
      · exact absurd (show (19 : Nat) = 11 from h1) (by decide)
      · exact absurd (show (20 : Nat) = 11 from h1) (by decide)
      · exact absurd (show (0 : Nat) = 11 from h1) (by decide)
      exact absurd (show (1 : Nat) = 11 from h1) (by decide)
    · intro Sd_ a w hSi hc hd HT hE; have H := HT; have H := H.addS (hE.at 0 rfl (hd 10 (by decide) (by decide))); have Hb := H.full; have H := Hb; clear hc; refine s_move H wn rfl rfl ?_; clear H; intro a H; refine wl_nil ⟨rfl, ?_⟩; refine drawV_val (by kernel_rfl) ?_ HT Hb hE H; intro e he h1 h2
      simp only [List.mem_cons, List.mem_nil_iff, or_false] at he
      rcases he with rfl | rfl | rfl | rfl | rfl | rfl | rfl | rfl | rfl | rfl | rfl | rfl | rfl | rfl
      · exact absurd (show false = true from h2) (by decide)
      · exact absurd (show false = true from h2) (by decide)
      · exact absurd (show (11 : Nat) = 12 from h1) (by decide)
      · exact (rfl)
      · exact absurd (show (13 : Nat) = 12 from h1) (by decide)
      · exact absurd (show (14 : Nat) = 12 from h1) (by decide)
      · exact absurd (show (15 : Nat) = 12 from h1) (by decide)
      · exact absurd (show (16 : Nat) = 12 from h1) (by decide)
      · exact absurd (show (17 : Nat) = 12 from h1) (by decide)
      · exact absurd (show (18 : Nat) = 12 from h1) (by decide)
      · exact absurd (show (19 : Nat) = 12 from h1) (by decide)
      · exact absurd (show (20 : Nat) = 12 from h1) (by decide)
      · exact absurd (show (0 : Nat) = 12 from h1) (by decide)
      exact absurd (show (1 : Nat) = 12 from h1) (by decide)
    · intro Sd_ a w hSi hc hd HT hE; have H := HT; have H := H.addS (hE.at 3 rfl (hc 1 (by decide))); have Hb := H.full; have H := Hb; clear hc; refine s_lens un9bsi H wn rfl rfl ?_; clear H; intro a H; refine wl_nil ⟨rfl, ?_⟩; refine drawV_val (by kernel_rfl) ?_ HT Hb hE H; intro e he h1 h2
      simp only [List.mem_cons, List.mem_nil_iff, or_false] at he
      rcases he with rfl | rfl | rfl | rfl | rfl | rfl | rfl | rfl | rfl | rfl | rfl | rfl | rfl | rfl
      · exact absurd (show false = true from h2) (by decide)
      · exact absurd (show false = true from h2) (by decide)
      · exact absurd (show (11 : Nat) = 13 from h1) (by decide)
      · exact absurd (show (12 : Nat) = 13 from h1) (by decide)
      · exact (rfl)
      · exact absurd (show (14 : Nat) = 13 from h1) (by decide)
      · exact absurd (show (15 : Nat) = 13 from h1) (by decide)
      · exact absurd (show (16 : Nat) = 13 from h1) (by decide)
      · exact absurd (show (17 : Nat) = 13 from h1) (by decide)
      · exact absurd (show (18 : Nat) = 13 from h1) (by decide)
      · exact absurd (show (19 : Nat) = 13 from h1) (by decide)
      · exact absurd (show (20 : Nat) = 13 from h1) (by decide)
      · exact absurd (show (0 : Nat) = 13 from h1) (by decide)
      exact absurd (show (1 : Nat) = 13 from h1) (by decide)
    · intro Sd_ a w hSi hc hd HT hE; have H := HT; have H := H.addS (hE.at 4 rfl (hc 2 (by decide))); have Hb := H.full; have H := Hb; clear hc; refine s_min H wn rfl rfl rfl ?_; clear H; intro a H; refine wl_nil ⟨rfl, ?_⟩; refine drawV_val (by kernel_rfl) ?_ HT Hb hE H; intro e he h1 h2
      simp only [List.mem_cons, List.mem_nil_iff, or_false] at he
      rcases he with rfl | rfl | rfl | rfl | rfl | rfl | rfl | rfl | rfl | rfl | rfl | rfl | rfl | rfl
      · exact absurd (show false = true from h2) (by decide)
      · exact absurd (show false = true from h2) (by decide)
      · exact absurd (show (11 : Nat) = 14 from h1) (by decide)
      · exact absurd (show (12 : Nat) = 14 from h1) (by decide)
      · exact absurd (show (13 : Nat) = 14 from h1) (by decide)
      · exact (rfl)
      · exact absurd (show (15 : Nat) = 14 from h1) (by decide)
      · exact absurd (show (16 : Nat) = 14 from h1) (by decide)
      · exact absurd (show (17 : Nat) = 14 from h1) (by decide)
      · exact absurd (show (18 : Nat) = 14 from h1) (by decide)
      · exact absurd (show (19 : Nat) = 14 from h1) (by decide)
      · exact absurd (show (20 : Nat) = 14 from h1) (by decide)
      · exact absurd (show (0 : Nat) = 14 from h1) (by decide)
      exact absurd (show (1 : Nat) = 14 from h1) (by decide)
    · intro Sd_ a w hSi hc hd HT hE; have H := HT; have H := H.addS (hE.at 2 rfl (hc 0 (by decide))); have H := H.addS (hE.at 5 rfl (hc 3 (by decide))); have Hb := H.full; have H := Hb; clear hc; refine s_strTo (min s.size 200) un9bsi H wn rfl rfl (by omega) (by omega) rfl ?_; clear H; intro a H; refine wl_nil ⟨rfl, ?_⟩; refine drawV_val (by kernel_rfl) ?_ HT Hb hE H; intro e he h1 h2
      simp only [List.mem_cons, List.mem_nil_iff, or_false] at he
      rcases he with rfl | rfl | rfl | rfl | rfl | rfl | rfl | rfl | rfl | rfl | rfl | rfl | rfl | rfl
      · exact absurd (show false = true from h2) (by decide)
      · exact absurd (show false = true from h2) (by decide)
      · exact absurd (show (11 : Nat) = 15 from h1) (by decide)
      · exact absurd (show (12 : Nat) = 15 from h1) (by decide)
      · exact absurd (show (13 : Nat) = 15 from h1) (by decide)
      · exact absurd (show (14 : Nat) = 15 from h1) (by decide)
      · exact (rfl)
      · exact absurd (show (16 : Nat) = 15 from h1) (by decide)
      · exact absurd (show (17 : Nat) = 15 from h1) (by decide)
      · exact absurd (show (18 : Nat) = 15 from h1) (by decide)
      · exact absurd (show (19 : Nat) = 15 from h1) (by decide)
      · exact absurd (show (20 : Nat) = 15 from h1) (by decide)
      · exact absurd (show (0 : Nat) = 15 from h1) (by decide)
      exact absurd (show (1 : Nat) = 15 from h1) (by decide)
    · intro Sd_ a w hSi hc hd HT hE; have H := HT; have H := H.addS (hE.at 1 rfl (hd 11 (by decide) (by decide))); have Hb := H.full; have H := Hb; clear hc; refine s_move H wn rfl rfl ?_; clear H; intro a H; refine wl_nil ⟨rfl, ?_⟩; refine drawV_val (by kernel_rfl) ?_ HT Hb hE H; intro e he h1 h2
      simp only [List.mem_cons, List.mem_nil_iff, or_false] at he
      rcases he with rfl | rfl | rfl | rfl | rfl | rfl | rfl | rfl | rfl | rfl | rfl | rfl | rfl | rfl
      · exact absurd (show false = true from h2) (by decide)
      · exact absurd (show false = true from h2) (by decide)
      · exact absurd (show (11 : Nat) = 16 from h1) (by decide)
      · exact absurd (show (12 : Nat) = 16 from h1) (by decide)
      · exact absurd (show (13 : Nat) = 16 from h1) (by decide)
      · exact absurd (show (14 : Nat) = 16 from h1) (by decide)
      · exact absurd (show (15 : Nat) = 16 from h1) (by decide)
      · exact (rfl)
      · exact absurd (show (17 : Nat) = 16 from h1) (by decide)
      · exact absurd (show (18 : Nat) = 16 from h1) (by decide)
      · exact absurd (show (19 : Nat) = 16 from h1) (by decide)
      · exact absurd (show (20 : Nat) = 16 from h1) (by decide)
      · exact absurd (show (0 : Nat) = 16 from h1) (by decide)
      exact absurd (show (1 : Nat) = 16 from h1) (by decide)
    · intro Sd_ a w hSi hc hd HT hE; have H := HT; have H := H.addS (hE.at 1 rfl (hd 11 (by decide) (by decide))); have Hb := H.full; have H := Hb; clear hc; refine s_move H wn rfl rfl ?_; clear H; intro a H; refine wl_nil ⟨rfl, ?_⟩; refine drawV_val (by kernel_rfl) ?_ HT Hb hE H; intro e he h1 h2
      simp only [List.mem_cons, List.mem_nil_iff, or_false] at he
      rcases he with rfl | rfl | rfl | rfl | rfl | rfl | rfl | rfl | rfl | rfl | rfl | rfl | rfl | rfl
      · exact absurd (show false = true from h2) (by decide)
      · exact absurd (show false = true from h2) (by decide)
      · exact absurd (show (11 : Nat) = 17 from h1) (by decide)
      · exact absurd (show (12 : Nat) = 17 from h1) (by decide)
      · exact absurd (show (13 : Nat) = 17 from h1) (by decide)
      · exact absurd (show (14 : Nat) = 17 from h1) (by decide)
      · exact absurd (show (15 : Nat) = 17 from h1) (by decide)
      · exact absurd (show (16 : Nat) = 17 from h1) (by decide)
      · exact (rfl)
      · exact absurd (show (18 : Nat) = 17 from h1) (by decide)
      · exact absurd (show (19 : Nat) = 17 from h1) (by decide)
      · exact absurd (show (20 : Nat) = 17 from h1) (by decide)
      · exact absurd (show (0 : Nat) = 17 from h1) (by decide)
      exact absurd (show (1 : Nat) = 17 from h1) (by decide)
    · intro Sd_ a w hSi hc hd HT hE; have H := HT; have H := H.addS (hE.at 8 rfl (hc 6 (by decide))); have Hb := H.full; have H := Hb; clear hc; refine s_lens un9bsi H wn rfl rfl ?_; clear H; intro a H; refine wl_nil ⟨rfl, ?_⟩; refine drawV_val (by kernel_rfl) ?_ HT Hb hE H; intro e he h1 h2
      simp only [List.mem_cons, List.mem_nil_iff, or_false] at he
      rcases he with rfl | rfl | rfl | rfl | rfl | rfl | rfl | rfl | rfl | rfl | rfl | rfl | rfl | rfl
      · exact absurd (show false = true from h2) (by decide)
      · exact absurd (show false = true from h2) (by decide)
      · exact absurd (show (11 : Nat) = 18 from h1) (by decide)
      · exact absurd (show (12 : Nat) = 18 from h1) (by decide)
      · exact absurd (show (13 : Nat) = 18 from h1) (by decide)
      · exact absurd (show (14 : Nat) = 18 from h1) (by decide)
      · exact absurd (show (15 : Nat) = 18 from h1) (by decide)
      · exact absurd (show (16 : Nat) = 18 from h1) (by decide)
      · exact absurd (show (17 : Nat) = 18 from h1) (by decide)
      · exact (rfl)
      · exact absurd (show (19 : Nat) = 18 from h1) (by decide)
      · exact absurd (show (20 : Nat) = 18 from h1) (by decide)
      · exact absurd (show (0 : Nat) = 18 from h1) (by decide)
      exact absurd (show (1 : Nat) = 18 from h1) (by decide)
    · intro Sd_ a w hSi hc hd HT hE; have H := HT; have H := H.addS (hE.at 9 rfl (hc 7 (by decide))); have Hb := H.full; have H := Hb; clear hc; refine s_min H wn rfl rfl rfl ?_; clear H; intro a H; refine wl_nil ⟨rfl, ?_⟩; refine drawV_val (by kernel_rfl) ?_ HT Hb hE H; intro e he h1 h2
      simp only [List.mem_cons, List.mem_nil_iff, or_false] at he
      rcases he with rfl | rfl | rfl | rfl | rfl | rfl | rfl | rfl | rfl | rfl | rfl | rfl | rfl | rfl
      · exact absurd (show false = true from h2) (by decide)
      · exact absurd (show false = true from h2) (by decide)
      · exact absurd (show (11 : Nat) = 19 from h1) (by decide)
      · exact absurd (show (12 : Nat) = 19 from h1) (by decide)
      · exact absurd (show (13 : Nat) = 19 from h1) (by decide)
      · exact absurd (show (14 : Nat) = 19 from h1) (by decide)
      · exact absurd (show (15 : Nat) = 19 from h1) (by decide)
      · exact absurd (show (16 : Nat) = 19 from h1) (by decide)
      · exact absurd (show (17 : Nat) = 19 from h1) (by decide)
      · exact absurd (show (18 : Nat) = 19 from h1) (by decide)
      · exact (rfl)
      · exact absurd (show (20 : Nat) = 19 from h1) (by decide)
      · exact absurd (show (0 : Nat) = 19 from h1) (by decide)
      exact absurd (show (1 : Nat) = 19 from h1) (by decide)
    · intro Sd_ a w hSi hc hd HT hE; have H := HT; have H := H.addS (hE.at 7 rfl (hc 5 (by decide))); have H := H.addS (hE.at 10 rfl (hc 8 (by decide))); have Hb := H.full; have H := Hb; clear hc; refine s_strTo (min t.size 200) un9bsi H wn rfl rfl (by omega) (by omega) rfl ?_; clear H; intro a H; refine wl_nil ⟨rfl, ?_⟩; refine drawV_val (by kernel_rfl) ?_ HT Hb hE H; intro e he h1 h2
      simp only [List.mem_cons, List.mem_nil_iff, or_false] at he
      rcases he with rfl | rfl | rfl | rfl | rfl | rfl | rfl | rfl | rfl | rfl | rfl | rfl | rfl | rfl
      · exact absurd (show false = true from h2) (by decide)
      · exact absurd (show false = true from h2) (by decide)
      · exact absurd (show (11 : Nat) = 20 from h1) (by decide)
      · exact absurd (show (12 : Nat) = 20 from h1) (by decide)
      · exact absurd (show (13 : Nat) = 20 from h1) (by decide)
      · exact absurd (show (14 : Nat) = 20 from h1) (by decide)
      · exact absurd (show (15 : Nat) = 20 from h1) (by decide)
      · exact absurd (show (16 : Nat) = 20 from h1) (by decide)
      · exact absurd (show (17 : Nat) = 20 from h1) (by decide)
      · exact absurd (show (18 : Nat) = 20 from h1) (by decide)
      · exact absurd (show (19 : Nat) = 20 from h1) (by decide)
      · exact (rfl)
      · exact absurd (show (0 : Nat) = 20 from h1) (by decide)
      exact absurd (show (1 : Nat) = 20 from h1) (by decide)
    · intro Sd_ a w hSi hc hd HT hE; have H := HT; have H := H.addS (hE.at 6 rfl (hc 4 (by decide))); have Hb := H.full; have H := Hb; clear hc; refine s_assign H wn rfl rfl ?_; clear H; intro a H; refine wl_nil ⟨rfl, ?_⟩; refine drawV_val (by kernel_rfl) ?_ HT Hb hE H; intro e he h1 h2
      simp only [List.mem_cons, List.mem_nil_iff, or_false] at he
      rcases he with rfl | rfl | rfl | rfl | rfl | rfl | rfl | rfl | rfl | rfl | rfl | rfl | rfl | rfl
      · exact absurd (show false = true from h2) (by decide)
      · exact absurd (show false = true from h2) (by decide)
      · exact absurd (show (11 : Nat) = 0 from h1) (by decide)
      · exact absurd (show (12 : Nat) = 0 from h1) (by decide)
      · exact absurd (show (13 : Nat) = 0 from h1) (by decide)
      · exact absurd (show (14 : Nat) = 0 from h1) (by decide)
      · exact absurd (show (15 : Nat) = 0 from h1) (by decide)
      · exact absurd (show (16 : Nat) = 0 from h1) (by decide)
      · exact absurd (show (17 : Nat) = 0 from h1) (by decide)
      · exact absurd (show (18 : Nat) = 0 from h1) (by decide)
      · exact absurd (show (19 : Nat) = 0 from h1) (by decide)
      · exact absurd (show (20 : Nat) = 0 from h1) (by decide)
      · exact (rfl)
      exact absurd (show (1 : Nat) = 0 from h1) (by decide)
    intro Sd_ a w hSi hc hd HT hE; have H := HT; have H := H.addS (hE.at 11 rfl (hc 9 (by decide))); have Hb := H.full; have H := Hb; clear hc; refine s_assign H wn rfl rfl ?_; clear H; intro a H; refine wl_nil ⟨rfl, ?_⟩; refine drawV_val (by kernel_rfl) ?_ HT Hb hE H; intro e he h1 h2
    simp only [List.mem_cons, List.mem_nil_iff, or_false] at he
    rcases he with rfl | rfl | rfl | rfl | rfl | rfl | rfl | rfl | rfl | rfl | rfl | rfl | rfl | rfl
    · exact absurd (show false = true from h2) (by decide)
    · exact absurd (show false = true from h2) (by decide)
    · exact absurd (show (11 : Nat) = 1 from h1) (by decide)
    · exact absurd (show (12 : Nat) = 1 from h1) (by decide)
    · exact absurd (show (13 : Nat) = 1 from h1) (by decide)
    · exact absurd (show (14 : Nat) = 1 from h1) (by decide)
    · exact absurd (show (15 : Nat) = 1 from h1) (by decide)
    · exact absurd (show (16 : Nat) = 1 from h1) (by decide)
    · exact absurd (show (17 : Nat) = 1 from h1) (by decide)
    · exact absurd (show (18 : Nat) = 1 from h1) (by decide)
    · exact absurd (show (19 : Nat) = 1 from h1) (by decide)
    · exact absurd (show (20 : Nat) = 1 from h1) (by decide)
    · exact absurd (show (0 : Nat) = 1 from h1) (by decide)
    exact (rfl)
  clear H; intro Sd_ a w hall H hE; have H := H.addS (hE.at 12 rfl (hall 10 (by decide))); have H := H.addS (hE.at 13 rfl (hall 11 (by decide))); clear hE hall; skip; refine hK2 _ _ ?_; clear hK2; refine c_seq (fun _ hK3 => ?_); refine c_region ?_; (iterate 2 refine s_move H wn rfl rfl ?_; clear H; intro a H); refine s_call en20bsi H wn rfl (bsim_spec _ _ H.hp.ro (fun _ _ h => h) _ _ okS okT (by omega) (by omega)) rfl ?_; clear H; rintro v24 G24 a w rfl hm24 H; rw [show alnS (twoA (preS s)) (twoB (preS s) (preS t)) = n from hn.symm] at H; refine s_move H wn rfl rfl ?_; clear H; intro a H; (iterate 2 refine s_extract H wn rfl rfl rfl ?_; clear H; intro a H); (iterate 2 refine s_assign H wn rfl rfl ?_; clear H; intro a H); refine wl_nil ?_; refine hK3 _ _ ?_; clear hK3; refine c_seq (fun _ hK4 => ?_); refine c_region ?_; (iterate 2 refine s_move H wn rfl rfl ?_; clear H; intro a H); refine s_call en20bsi H wn rfl (bsim_spec _ _ H.hp.ro hm24 _ _ okT okS (by omega) (by omega)) rfl ?_; clear H; rintro v30 G30 a w rfl hm30 H; rw [show alnS (twoA (preS t)) (twoB (preS t) (preS s)) = n from hsy] at H; refine s_move H wn rfl rfl ?_; clear H; intro a H; (iterate 2 refine s_extract H wn rfl rfl rfl ?_; clear H; intro a H); (iterate 2 refine s_assign H wn rfl rfl ?_; clear H; intro a H); refine wl_nil ?_; refine hK4 _ _ ?_; clear hK4; refine c_seq (fun _ hK5 => ?_); refine c_seq (fun _ hK6 => ?_); refine c_region ?_; refine s_move H wn rfl rfl ?_; clear H; intro a H; refine s_call en18bsi H wn rfl (valid_spec _ _ H.hp.ro _ (by omega)) rfl ?_; clear H; rintro v34 _ a w ⟨rfl, rfl⟩ - H; rw [hb.1] at H; refine s_not H wn rfl rfl ?_; clear H; intro a H; refine s_move H wn rfl rfl ?_; clear H; intro a H; refine s_split H 36 rfl ?_ ?_
  · intro h36
    try have p36 := of_decide_eq_true h36
    exact absurd h36 (by decide)
  intro h36
  try have p36 := of_decide_eq_false h36
  refine s_move H (wg H rfl rfl h36) rfl rfl ?_; clear H; intro a H; refine s_call en18bsi H (wg H rfl rfl h36) rfl (valid_spec _ _ H.hp.ro _ (by omega)) rfl ?_; clear H; rintro v38 _ a w ⟨rfl, rfl⟩ - H; rw [hb.2] at H; refine s_not H (wg H rfl rfl h36) rfl rfl ?_; clear H; intro a H; refine s_pick_f H wn rfl h36 rfl rfl ?_; clear H; intro a H; refine wl_nil ?_; refine hK6 _ _ ?_; clear hK6; refine c_cond H rfl ?_ ?_
  · intro h40
    try have p40 := of_decide_eq_true h40
    exact absurd h40 (by decide)
  intro h40
  try have p40 := of_decide_eq_false h40
  refine c_skip ?_; refine hK5 _ _ ?_; clear hK5; refine c_seq (fun _ hK7 => ?_); refine c_region ?_; (iterate 2 refine s_move H wn rfl rfl ?_; clear H; intro a H); refine s_call en20bsi H wn rfl (bsim_spec _ _ H.hp.ro (fun b o h => hm30 b o (hm24 b o h)) _ _ okS okS (by omega) (by omega)) rfl ?_; clear H; rintro v61 G61 a w rfl hm61 H; rw [show alnS (twoA (preS s)) (twoB (preS s) (preS s)) = 1000 from hsa] at H; refine s_move H wn rfl rfl ?_; clear H; intro a H; (iterate 2 refine s_extract H wn rfl rfl rfl ?_; clear H; intro a H); (iterate 2 refine s_assign H wn rfl rfl ?_; clear H; intro a H); refine wl_nil ?_; refine hK7 _ _ ?_; clear hK7; refine c_seq (fun _ hK8 => ?_); refine c_region ?_; refine s_call en11bsi H wn rfl (known_spec _ _ H.hp.ro) rfl ?_; clear H; rintro v64 G64 a w rfl hm64 H; refine s_move H wn rfl rfl ?_; clear H; intro a H; refine s_split H 65 rfl ?_ ?_
  · intro h65
    try have p65 := of_decide_eq_true h65
    refine s_move H (wg H rfl rfl h65) rfl rfl ?_; clear H; intro a H; refine s_cmp H (wg H rfl rfl h65) rfl rfl rfl rfl ?_; clear H; intro a H; refine s_pick_t H wn rfl h65 rfl rfl ?_; clear H; intro a H; refine s_move H wn rfl rfl ?_; clear H; intro a H; refine s_split H 69 rfl ?_ ?_
    · intro h69
      try have p69 := of_decide_eq_true h69
      refine s_move H (wg H rfl rfl h69) rfl rfl ?_; clear H; intro a H; refine s_cmp H (wg H rfl rfl h69) rfl rfl rfl rfl ?_; clear H; intro a H; refine s_pick_t H wn rfl h69 rfl rfl ?_; clear H; intro a H; refine s_move H wn rfl rfl ?_; clear H; intro a H; refine s_split H 73 rfl ?_ ?_
      · intro h73
        try have p73 := of_decide_eq_true h73
        (iterate 2 refine s_move H (wg H rfl rfl h73) rfl rfl ?_; clear H; intro a H); refine s_cmp H (wg H rfl rfl h73) rfl rfl rfl rfl ?_; clear H; intro a H; refine s_pick_t H wn rfl h73 rfl rfl ?_; clear H; intro a H; refine s_move H wn rfl rfl ?_; clear H; intro a H; refine s_split H 78 rfl ?_ ?_
        · intro h78
          try have p78 := of_decide_eq_true h78
          (iterate 3 refine s_move H (wg H rfl rfl h78) rfl rfl ?_; clear H; intro a H); refine s_call en21bsi H (wg H rfl rfl h78) rfl (msim_spec _ _ H.hp.ro (fun b o h => hm64 b o (hm61 b o (hm30 b o (hm24 b o h)))) _ _ okS okT (by omega) (by omega)) rfl ?_; clear H; rintro v82 G82 a w rfl hm82 H; rw [← hn] at H; refine s_cmp H (wg H rfl rfl h78) rfl rfl rfl rfl ?_; clear H; intro a H; refine s_pick_t H wn rfl h78 rfl rfl ?_; clear H; intro a H; refine s_move H wn rfl rfl ?_; clear H; intro a H; refine s_split H 85 rfl ?_ ?_
          · intro h85
            try have p85 := of_decide_eq_true h85
            refine s_move H (wg H rfl rfl h85) rfl rfl ?_; clear H; intro a H; refine s_cmp H (wg H rfl rfl h85) rfl rfl rfl rfl ?_; clear H; intro a H; refine s_pick_t H wn rfl h85 rfl rfl ?_; clear H; intro a H; refine s_move H wn rfl rfl ?_; clear H; intro a H; refine s_split H 89 rfl ?_ ?_
            · intro h89
              try have p89 := of_decide_eq_true h89
              refine s_move H (wg H rfl rfl h89) rfl rfl ?_; clear H; intro a H; refine s_cmp H (wg H rfl rfl h89) rfl rfl rfl rfl ?_; clear H; intro a H; refine s_pick_t H wn rfl h89 rfl rfl ?_; clear H; intro a H; refine s_move H wn rfl rfl ?_; clear H; intro a H; refine s_split H 93 rfl ?_ ?_
              · intro h93
                try have p93 := of_decide_eq_true h93
                refine s_move H (wg H rfl rfl h93) rfl rfl ?_; clear H; intro a H; refine s_cmp H (wg H rfl rfl h93) rfl rfl rfl rfl ?_; clear H; intro a H; refine s_pick_t H wn rfl h93 rfl rfl ?_; clear H; intro a H; refine s_move H wn rfl rfl ?_; clear H; intro a H; refine s_split H 97 rfl ?_ ?_
                · intro h97
                  try have p97 := of_decide_eq_true h97
                  refine s_move H (wg H rfl rfl h97) rfl rfl ?_; clear H; intro a H; refine s_cmp H (wg H rfl rfl h97) rfl rfl rfl rfl ?_; clear H; intro a H; refine s_pick_t H wn rfl h97 rfl rfl ?_; clear H; intro a H; refine s_assign H wn rfl rfl ?_; clear H; intro a H; refine wl_nil ?_; refine hK8 _ _ ?_; clear hK8; refine c_ret ?_; refine (leave1 H Tryd.results8 (.cons (rv_tmp H rfl) .nil) ?_).1; exact H.hp.ret rfl
                intro h97
                try have p97 := of_decide_eq_false h97
                exact absurd h97 (by decide)
              intro h93
              try have p93 := of_decide_eq_false h93
              exact absurd h93 (by simp; omega)
            intro h89
            try have p89 := of_decide_eq_false h89
            exact absurd h89 (by simp; omega)
          intro h85
          try have p85 := of_decide_eq_false h85
          exact absurd h85 (by simp)
        intro h78
        try have p78 := of_decide_eq_false h78
        exact absurd h78 (by simp)
      intro h73
      try have p73 := of_decide_eq_false h73
      exact absurd h73 (by decide)
    intro h69
    try have p69 := of_decide_eq_false h69
    exact absurd h69 (by decide)
  intro h65
  try have p65 := of_decide_eq_false h65
  exact absurd h65 (by decide)
theorem bsimilar_true (G : GH) (w0 : World) (hG : Hold G w0) (hT : TabsG G) (s t : ByteArray) (hs : s.size ≤ 9223372036854775807) (ht : t.size ≤ 9223372036854775807) :
    Calls Tryd.prog 8 #[.string s, .string t] w0 (Ret w0 G fun u G' => u = .bool true) := by
  by_cases hb : validS (preS s) = true ∧ validS (preS t) = true
  · exact similar_ok G w0 hG hT s t hb hs ht
  exact similar_bad G w0 hG s t hb hs ht
end Go.Proofs.YtpmcdlhhfbobfaaDoor
