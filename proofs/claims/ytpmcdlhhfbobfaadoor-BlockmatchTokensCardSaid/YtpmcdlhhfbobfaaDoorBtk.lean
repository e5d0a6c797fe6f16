/-
  Package obeluslaw31: BlockmatchTokens.
-/
import Derived.Test.YtpmcdlhhfbobfaaDoorBpr
namespace Go.Proofs.YtpmcdlhhfbobfaaDoor
open Go.RowKit
theorem un9btk : Tryd.prog.underlying 9 = some .string := by kernel_rfl
theorem en17btk : ∀ args w, (callFunc 17 args).run Tryd.prog w = .ok (.enter 17 args) w := enters Tryd.func17 rfl (by kernel_rfl)
theorem en11btk : ∀ args w, (callFunc 11 args).run Tryd.prog w = .ok (.enter 11 args) w := enters Tryd.func11 rfl (by kernel_rfl)
theorem en18btk : ∀ args w, (callFunc 18 args).run Tryd.prog w = .ok (.enter 18 args) w := enters Tryd.func18 rfl (by kernel_rfl)
theorem un41btk : Tryd.prog.underlying 41 = some (.slice 48) := by kernel_rfl
theorem en19btk : ∀ args w, (callFunc 19 args).run Tryd.prog w = .ok (.enter 19 args) w := enters Tryd.func19 rfl (by kernel_rfl)
theorem ty48btk : Ty Tryd.prog 48 2 16 [.int .i64 0, .int .i64 0] true := ⟨by kernel_rfl, by kernel_rfl⟩
theorem eqs48btk : EqS Tryd.prog 48 [(0, false), (1, false)] := ⟨by kernel_rfl, by kernel_rfl, by kernel_rfl, by kernel_rfl, by kernel_rfl⟩
set_option maxHeartbeats 1000000 in
theorem tokens_bad (G : GH) (w0 : World) (hG : Hold G w0) (s t : ByteArray) (hb : ¬ (validS (preS s) = true ∧ validS (preS t) = true)) (hs : s.size ≤ 9223372036854775807) (ht : t.size ≤ 9223372036854775807) :
    Calls Tryd.prog 7 #[.string s, .string t] w0 (Ret w0 G fun u G' => u = .bool true) := by
  have hs2 := preS_size s; have ht2 := preS_size t; refine enter (N := 106) (T := [(0, _), (1, _)]) (F := fun k => k < w0.heap.size) (L := []) Tryd.func7 rfl Tryd.ntmps7 rfl rfl hG (fun _ h => h) (fun _ h => by cases h) (fun _ h => by cases h) (fun _ h => by cases h) List.Pairwise.nil ?_; intro a H; refine c_seq (fun _ hK1 => ?_); refine c_region ?_; refine s_assign H wn rfl rfl ?_; clear H; intro a H; refine wl_nil ?_; refine hK1 _ _ ?_; clear hK1; refine c_seq (fun _ hK2 => ?_); have hvo0 := H.get 0 (.string s) rfl; have hvo1 := H.get 1 (.string t) rfl; have H := H.sub (T' := []) trivial; refine c_drawV (hmxb) [[], [], [1], [1, 2], [0, 1, 2, 3], [], [], [6], [6, 7], [5, 6, 7, 8], [0, 1, 2, 3, 4], [0, 1, 2, 3, 4, 5, 6, 7, 8, 9, 10]] (by kernel_rfl) ([(0, .string s, 10, false), (1, .string t, 11, false), (12, .string s, 0, true), (13, .string s, 1, true), (14, vi s.size, 2, true), (15, vi (min (s.size : Int) 200), 3, true), (16, .string (preS s), 4, true), (17, .string t, 5, true), (18, .string t, 6, true), (19, vi t.size, 7, true), (20, vi (min (t.size : Int) 200), 8, true), (21, .string (preS t), 9, true), (0, .string (preS s), 10, true), (1, .string (preS t), 11, true)]) H ?_ ?_ ?_
  · intro e he hS
    simp only [List.mem_cons, List.mem_nil_iff, or_false] at he
    rcases he with rfl | rfl | rfl | rfl | rfl | rfl | rfl | rfl | rfl | rfl | rfl | rfl | rfl | rfl
    · exact hvo0
    · exact hvo1
    · exact absurd (show false = true from hS) (by decide)
    · exact absurd (show false = true from hS) (by decide)
    · exact absurd (show false = true from hS) (by decide)
    · exact absurd (show false = true from hS) (by decide)
    · exact absurd (show false = true from hS) (by decide)
    · exact absurd (show false = true from hS) (by decide)
    · exact absurd (show false = true from hS) (by decide)
    · exact absurd (show false = true from hS) (by decide)
    · exact absurd (show false = true from hS) (by decide)
    · exact absurd (show false = true from hS) (by decide)
    · exact absurd (show false = true from hS) (by decide)
    exact absurd (show false = true from hS) (by decide)
  · clear H; refine (allI_cons ?_ (allI_cons ?_ (allI_cons ?_ (allI_cons ?_ (allI_cons ?_ (allI_cons ?_ (allI_cons ?_ (allI_cons ?_ (allI_cons ?_ (allI_cons ?_ (allI_cons ?_ (allI_cons ?_ allI_nil))))))))))))
    · intro Sd_ a w hSi hc hd HT hE; have H := HT; have H := H.addS (hE.at 0 rfl (hd 10 (by decide) (by decide))); have Hb := H.full; have H := Hb; clear hc; refine s_move H wn rfl rfl ?_; clear H; intro a H; refine wl_nil ⟨rfl, ?_⟩; refine drawV_val (by kernel_rfl) ?_ HT Hb hE H; intro e he h1 h2
      simp only [List.mem_cons, List.mem_nil_iff, or_false] at he
      rcases he with rfl | rfl | rfl | rfl | rfl | rfl | rfl | rfl | rfl | rfl | rfl | rfl | rfl | rfl
      · exact absurd (show false = true from h2) (by decide)
      · exact absurd (show false = true from h2) (by decide)
      · exact (rfl)
      · exact absurd (show (13 : Nat) = 12 from h1) (by decide)
      · exact absurd (show (14 : Nat) = 12 from h1) (by decide)
      · exact absurd (show (15 : Nat) = 12 from h1) (by decide)
      · exact absurd (show (16 : Nat) = 12 from h1) (by decide)
      · exact absurd (show (17 : Nat) = 12 from h1) (by decide)
      · exact absurd (show (18 : Nat) = 12 from h1) (by decide)
      · exact absurd (show (19 : Nat) = 12 from h1) (by decide)
      · exact absurd (show (20 : Nat) = 12 from h1) (by decide)
      · exact absurd (show (21 : Nat) = 12 from h1) (by decide)
      · exact absurd (show (0 : Nat) = 12 from h1) (by decide)
      exact absurd (show (1 : Nat) = 12 from h1) (by decide)
    · intro Sd_ a w hSi hc hd HT hE; have H := HT; have H := H.addS (hE.at 0 rfl (hd 10 (by decide) (by decide))); have Hb := H.full; have H := Hb; clear hc; refine s_move H wn rfl rfl ?_; clear H; intro a H; refine wl_nil ⟨rfl, ?_⟩; refine drawV_val (by kernel_rfl) ?_ HT Hb hE H; intro e he h1 h2
      simp only [List.mem_cons, List.mem_nil_iff, or_false] at he
      rcases he with rfl | rfl | rfl | rfl | rfl | rfl | rfl | rfl | rfl | rfl | rfl | rfl | rfl | rfl
      · exact absurd (show false = true from h2) (by decide)
      · exact absurd (show false = true from h2) (by decide)
      · exact absurd (show (12 : Nat) = 13 from h1) (by decide)
      · exact (rfl)
      · exact absurd (show (14 : Nat) = 13 from h1) (by decide)
      · exact absurd (show (15 : Nat) = 13 from h1) (by decide)
      · exact absurd (show (16 : Nat) = 13 from h1) (by decide)
      · exact absurd (show (17 : Nat) = 13 from h1) (by decide)
      · exact absurd (show (18 : Nat) = 13 from h1) (by decide)
      · exact absurd (show (19 : Nat) = 13 from h1) (by decide)
      · exact absurd (show (20 : Nat) = 13 from h1) (by decide)
      · exact absurd (show (21 : Nat) = 13 from h1) (by decide)
      · exact absurd (show (0 : Nat) = 13 from h1) (by decide)
      exact absurd (show (1 : Nat) = 13 from h1) (by decide)
    · intro Sd_ a w hSi hc hd HT hE; have H := HT; have H := H.addS (hE.at 3 rfl (hc 1 (by decide))); have Hb := H.full; have H := Hb; clear hc; refine s_lens un9btk H wn rfl rfl ?_; clear H; intro a H; refine wl_nil ⟨rfl, ?_⟩; refine drawV_val (by kernel_rfl) ?_ HT Hb hE H; intro e he h1 h2
      simp only [List.mem_cons, List.mem_nil_iff, or_false] at he
      rcases he with rfl | rfl | rfl | rfl | rfl | rfl | rfl | rfl | rfl | rfl | rfl | rfl | rfl | rfl
      · exact absurd (show false = true from h2) (by decide)
      · exact absurd (show false = true from h2) (by decide)
      · exact absurd (show (12 : Nat) = 14 from h1) (by decide)
      · exact absurd (show (13 : Nat) = 14 from h1) (by decide)
      · exact (rfl)
      · exact absurd (show (15 : Nat) = 14 from h1) (by decide)
      · exact absurd (show (16 : Nat) = 14 from h1) (by decide)
      · exact absurd (show (17 : Nat) = 14 from h1) (by decide)
      · exact absurd (show (18 : Nat) = 14 from h1) (by decide)
      · exact absurd (show (19 : Nat) = 14 from h1) (by decide)
      · exact absurd (show (20 : Nat) = 14 from h1) (by decide)
      · exact absurd (show (21 : Nat) = 14 from h1) (by decide)
      · exact absurd (show (0 : Nat) = 14 from h1) (by decide)
      exact absurd (show (1 : Nat) = 14 from h1) (by decide)
    · intro Sd_ a w hSi hc hd HT hE; have H := HT; have H := H.addS (hE.at 4 rfl (hc 2 (by decide))); have Hb := H.full; have H := Hb; clear hc; refine s_min H wn rfl rfl rfl ?_; clear H; intro a H; refine wl_nil ⟨rfl, ?_⟩; refine drawV_val (by kernel_rfl) ?_ HT Hb hE H; intro e he h1 h2
      simp only [List.mem_cons, List.mem_nil_iff, or_false] at he
      rcases he with rfl | rfl | rfl | rfl | rfl | rfl | rfl | rfl | rfl | rfl | rfl | rfl | rfl | rfl
      · exact absurd (show false = true from h2) (by decide)
      · exact absurd (show false = true from h2) (by decide)
      · exact absurd (show (12 : Nat) = 15 from h1) (by decide)
      · exact absurd (show (13 : Nat) = 15 from h1) (by decide)
      · exact absurd (show (14 : Nat) = 15 from h1) (by decide)
      · exact (rfl)
      · exact absurd (show (16 : Nat) = 15 from h1) (by decide)
      · exact absurd (show (17 : Nat) = 15 from h1) (by decide)
      · exact absurd (show (18 : Nat) = 15 from h1) (by decide)
      · exact absurd (show (19 : Nat) = 15 from h1) (by decide)
      · exact absurd (show (20 : Nat) = 15 from h1) (by decide)
      · exact absurd (show (21 : Nat) = 15 from h1) (by decide)
      · exact absurd (show (0 : Nat) = 15 from h1) (by decide)
      exact absurd (show (1 : Nat) = 15 from h1) (by decide)
    · intro Sd_ a w hSi hc hd HT hE; have H := HT; have H := H.addS (hE.at 2 rfl (hc 0 (by decide))); have H := H.addS (hE.at 5 rfl (hc 3 (by decide))); have Hb := H.full; have H := Hb; clear hc; refine s_strTo (min s.size 200) un9btk H wn rfl rfl (by omega) (by omega) rfl ?_; clear H; intro a H; refine wl_nil ⟨rfl, ?_⟩; refine drawV_val (by kernel_rfl) ?_ HT Hb hE H; intro e he h1 h2
      simp only [List.mem_cons, List.mem_nil_iff, or_false] at he
      rcases he with rfl | rfl | rfl | rfl | rfl | rfl | rfl | rfl | rfl | rfl | rfl | rfl | rfl | rfl
      · exact absurd (show false = true from h2) (by decide)
      · exact absurd (show false = true from h2) (by decide)
      · exact absurd (show (12 : Nat) = 16 from h1) (by decide)
      · exact absurd (show (13 : Nat) = 16 from h1) (by decide)
      · exact absurd (show (14 : Nat) = 16 from h1) (by decide)
      · exact absurd (show (15 : Nat) = 16 from h1) (by decide)
      · exact (rfl)
      · exact absurd (show (17 : Nat) = 16 from h1) (by decide)
      · exact absurd (show (18 : Nat) = 16 from h1) (by decide)
      · exact absurd (show (19 : Nat) = 16 from h1) (by decide)
      · exact absurd (show (20 : Nat) = 16 from h1) (by decide)
      · exact absurd (show (21 : Nat) = 16 from h1) (by decide)
      · exact absurd (show (0 : Nat) = 16 from h1) (by decide)
      exact absurd (show (1 : Nat) = 16 from h1) (by decide)
    · intro Sd_ a w hSi hc hd HT hE; have H := HT; have H := H.addS (hE.at 1 rfl (hd 11 (by decide) (by decide))); have Hb := H.full; have H := Hb; clear hc; refine s_move H wn rfl rfl ?_; clear H; intro a H; refine wl_nil ⟨rfl, ?_⟩; refine drawV_val (by kernel_rfl) ?_ HT Hb hE H; intro e he h1 h2
      simp only [List.mem_cons, List.mem_nil_iff, or_false] at he
      rcases he with rfl | rfl | rfl | rfl | rfl | rfl | rfl | rfl | rfl | rfl | rfl | rfl | rfl | rfl
      · exact absurd (show false = true from h2) (by decide)
      · exact absurd (show false = true from h2) (by decide)
      · exact absurd (show (12 : Nat) = 17 from h1) (by decide)
      · exact absurd (show (13 : Nat) = 17 from h1) (by decide)
      · exact absurd (show (14 : Nat) = 17 from h1) (by decide)
      · exact absurd (show (15 : Nat) = 17 from h1) (by decide)
      · exact absurd (show (16 : Nat) = 17 from h1) (by decide)
      · exact (rfl)
      · exact absurd (show (18 : Nat) = 17 from h1) (by decide)
      · exact absurd (show (19 : Nat) = 17 from h1) (by decide)
      · exact absurd (show (20 : Nat) = 17 from h1) (by decide)
      · exact absurd (show (21 : Nat) = 17 from h1) (by decide)
      · exact absurd (show (0 : Nat) = 17 from h1) (by decide)
      exact absurd (show (1 : Nat) = 17 from h1) (by decide)
    · intro Sd_ a w hSi hc hd HT hE; have H := HT; have H := H.addS (hE.at 1 rfl (hd 11 (by decide) (by decide))); have Hb := H.full; have H := Hb; clear hc; refine s_move H wn rfl rfl ?_; clear H; intro a H; refine wl_nil ⟨rfl, ?_⟩; refine drawV_val (by kernel_rfl) ?_ HT Hb hE H; intro e he h1 h2
      simp only [List.mem_cons, List.mem_nil_iff, or_false] at he
      rcases he with rfl | rfl | rfl | rfl | rfl | rfl | rfl | rfl | rfl | rfl | rfl | rfl | rfl | rfl
      · exact absurd (show false = true from h2) (by decide)
      · exact absurd (show false = true from h2) (by decide)
      · exact absurd (show (12 : Nat) = 18 from h1) (by decide)
      · exact absurd (show (13 : Nat) = 18 from h1) (by decide)
      · exact absurd (show (14 : Nat) = 18 from h1) (by decide)
      · exact absurd (show (15 : Nat) = 18 from h1) (by decide)
      · exact absurd (show (16 : Nat) = 18 from h1) (by decide)
      · exact absurd (show (17 : Nat) = 18 from h1) (by decide)
      · exact (rfl)
      · exact absurd (show (19 : Nat) = 18 from h1) (by decide)
      · exact absurd (show (20 : Nat) = 18 from h1) (by decide)
      · exact absurd (show (21 : Nat) = 18 from h1) (by decide)
      · exact absurd (show (0 : Nat) = 18 from h1) (by decide)
      exact absurd (show (1 : Nat) = 18 from h1) (by decide)
    · intro Sd_ a w hSi hc hd HT hE; have H := HT; have H := H.addS (hE.at 8 rfl (hc 6 (by decide))); have Hb := H.full; have H := Hb; clear hc; refine s_lens un9btk H wn rfl rfl ?_; clear H; intro a H; refine wl_nil ⟨rfl, ?_⟩; refine drawV_val (by kernel_rfl) ?_ HT Hb hE H; intro e he h1 h2
      simp only [List.mem_cons, List.mem_nil_iff, or_false] at he
      rcases he with rfl | rfl | rfl | rfl | rfl | rfl | rfl | rfl | rfl | rfl | rfl | rfl | rfl | rfl
      · exact absurd (show false = true from h2) (by decide)
      · exact absurd (show false = true from h2) (by decide)
      · exact absurd (show (12 : Nat) = 19 from h1) (by decide)
      · exact absurd (show (13 : Nat) = 19 from h1) (by decide)
      · exact absurd (show (14 : Nat) = 19 from h1) (by decide)
      · exact absurd (show (15 : Nat) = 19 from h1) (by decide)
      · exact absurd (show (16 : Nat) = 19 from h1) (by decide)
      · exact absurd (show (17 : Nat) = 19 from h1) (by decide)
      · exact absurd (show (18 : Nat) = 19 from h1) (by decide)
      · exact (rfl)
      · exact absurd (show (20 : Nat) = 19 from h1) (by decide)
      · exact absurd (show (21 : Nat) = 19 from h1) (by decide)
      · exact absurd (show (0 : Nat) = 19 from h1) (by decide)
      exact absurd (show (1 : Nat) = 19 from h1) (by decide)
    · intro Sd_ a w hSi hc hd HT hE; have H := HT; have H := H.addS (hE.at 9 rfl (hc 7 (by decide))); have Hb := H.full; have H := Hb; clear hc; refine s_min H wn rfl rfl rfl ?_; clear H; intro a H; refine wl_nil ⟨rfl, ?_⟩; refine drawV_val (by kernel_rfl) ?_ HT Hb hE H; intro e he h1 h2
      simp only [List.mem_cons, List.mem_nil_iff, or_false] at he
      rcases he with rfl | rfl | rfl | rfl | rfl | rfl | rfl | rfl | rfl | rfl | rfl | rfl | rfl | rfl
      · exact absurd (show false = true from h2) (by decide)
      · exact absurd (show false = true from h2) (by decide)
      · exact absurd (show (12 : Nat) = 20 from h1) (by decide)
      · exact absurd (show (13 : Nat) = 20 from h1) (by decide)
      · exact absurd (show (14 : Nat) = 20 from h1) (by decide)
      · exact absurd (show (15 : Nat) = 20 from h1) (by decide)
      · exact absurd (show (16 : Nat) = 20 from h1) (by decide)
      · exact absurd (show (17 : Nat) = 20 from h1) (by decide)
      · exact absurd (show (18 : Nat) = 20 from h1) (by decide)
      · exact absurd (show (19 : Nat) = 20 from h1) (by decide)
      · exact (rfl)
      · exact absurd (show (21 : Nat) = 20 from h1) (by decide)
      · exact absurd (show (0 : Nat) = 20 from h1) (by decide)
      exact absurd (show (1 : Nat) = 20 from h1) (by decide)
    · intro Sd_ a w hSi hc hd HT hE; have H := HT; have H := H.addS (hE.at 7 rfl (hc 5 (by decide))); have H := H.addS (hE.at 10 rfl (hc 8 (by decide))); have Hb := H.full; have H := Hb; clear hc; refine s_strTo (min t.size 200) un9btk H wn rfl rfl (by omega) (by omega) rfl ?_; clear H; intro a H; refine wl_nil ⟨rfl, ?_⟩; refine drawV_val (by kernel_rfl) ?_ HT Hb hE H; intro e he h1 h2
      simp only [List.mem_cons, List.mem_nil_iff, or_false] at he
      rcases he with rfl | rfl | rfl | rfl | rfl | rfl | rfl | rfl | rfl | rfl | rfl | rfl | rfl | rfl
      · exact absurd (show false = true from h2) (by decide)
      · exact absurd (show false = true from h2) (by decide)
      · exact absurd (show (12 : Nat) = 21 from h1) (by decide)
      · exact absurd (show (13 : Nat) = 21 from h1) (by decide)
      · exact absurd (show (14 : Nat) = 21 from h1) (by decide)
      · exact absurd (show (15 : Nat) = 21 from h1) (by decide)
      · exact absurd (show (16 : Nat) = 21 from h1) (by decide)
      · exact absurd (show (17 : Nat) = 21 from h1) (by decide)
      · exact absurd (show (18 : Nat) = 21 from h1) (by decide)
      · exact absurd (show (19 : Nat) = 21 from h1) (by decide)
      · exact absurd (show (20 : Nat) = 21 from h1) (by decide)
      · exact (rfl)
      · exact absurd (show (0 : Nat) = 21 from h1) (by decide)
      exact absurd (show (1 : Nat) = 21 from h1) (by decide)
    · intro Sd_ a w hSi hc hd HT hE; have H := HT; have H := H.addS (hE.at 6 rfl (hc 4 (by decide))); have Hb := H.full; have H := Hb; clear hc; refine s_assign H wn rfl rfl ?_; clear H; intro a H; refine wl_nil ⟨rfl, ?_⟩; refine drawV_val (by kernel_rfl) ?_ HT Hb hE H; intro e he h1 h2
      simp only [List.mem_cons, List.mem_nil_iff, or_false] at he
      rcases he with rfl | rfl | rfl | rfl | rfl | rfl | rfl | rfl | rfl | rfl | rfl | rfl | rfl | rfl
      · exact absurd (show false = true from h2) (by decide)
      · exact absurd (show false = true from h2) (by decide)
      · exact absurd (show (12 : Nat) = 0 from h1) (by decide)
      · exact absurd (show (13 : Nat) = 0 from h1) (by decide)
      · exact absurd (show (14 : Nat) = 0 from h1) (by decide)
      · exact absurd (show (15 : Nat) = 0 from h1) (by decide)
      · exact absurd (show (16 : Nat) = 0 from h1) (by decide)
      · exact absurd (show (17 : Nat) = 0 from h1) (by decide)
      · exact absurd (show (18 : Nat) = 0 from h1) (by decide)
      · exact absurd (show (19 : Nat) = 0 from h1) (by decide)
      · exact absurd (show (20 : Nat) = 0 from h1) (by decide)
      · exact absurd (show (21 : Nat) = 0 from h1) (by decide)
      · exact (rfl)
      exact absurd (show (1 : Nat) = 0 from h1) (by decide)
    intro Sd_ a w hSi hc hd HT hE; have H := HT; have H := H.addS (hE.at 11 rfl (hc 9 (by decide))); have Hb := H.full; have H := Hb; clear hc; refine s_assign H wn rfl rfl ?_; clear H; intro a H; refine wl_nil ⟨rfl, ?_⟩; refine drawV_val (by kernel_rfl) ?_ HT Hb hE H; intro e he h1 h2
    simp only [List.mem_cons, List.mem_nil_iff, or_false] at he
    rcases he with rfl | rfl | rfl | rfl | rfl | rfl | rfl | rfl | rfl | rfl | rfl | rfl | rfl | rfl
    · exact absurd (show false = true from h2) (by decide)
    · exact absurd (show false = true from h2) (by decide)
    · exact absurd (show (12 : Nat) = 1 from h1) (by decide)
    · exact absurd (show (13 : Nat) = 1 from h1) (by decide)
    · exact absurd (show (14 : Nat) = 1 from h1) (by decide)
    · exact absurd (show (15 : Nat) = 1 from h1) (by decide)
    · exact absurd (show (16 : Nat) = 1 from h1) (by decide)
    · exact absurd (show (17 : Nat) = 1 from h1) (by decide)
    · exact absurd (show (18 : Nat) = 1 from h1) (by decide)
    · exact absurd (show (19 : Nat) = 1 from h1) (by decide)
    · exact absurd (show (20 : Nat) = 1 from h1) (by decide)
    · exact absurd (show (21 : Nat) = 1 from h1) (by decide)
    · exact absurd (show (0 : Nat) = 1 from h1) (by decide)
    exact (rfl)
  clear H; intro Sd_ a w hall H hE; have H := H.addS (hE.at 12 rfl (hall 10 (by decide))); have H := H.addS (hE.at 13 rfl (hall 11 (by decide))); clear hE hall; skip; refine hK2 _ _ ?_; clear hK2; refine c_seq (fun _ hK3 => ?_); refine c_region ?_; (iterate 2 refine s_move H wn rfl rfl ?_; clear H; intro a H); refine s_call en17btk H wn rfl (btwo_bad _ _ H.hp.ro _ _ (by omega) (by omega) hb) rfl ?_; clear H; rintro v25 G25 a w rfl hm25 H; refine s_move H wn rfl rfl ?_; clear H; intro a H; (iterate 3 refine s_extract H wn rfl rfl rfl ?_; clear H; intro a H); (iterate 3 refine s_assign H wn rfl rfl ?_; clear H; intro a H); refine wl_nil ?_; refine hK3 _ _ ?_; clear hK3; refine c_seq (fun _ hK4 => ?_); refine c_seq (fun _ hK5 => ?_); refine c_region ?_; refine s_move H wn rfl rfl ?_; clear H; intro a H; refine s_call en18btk H wn rfl (valid_spec _ _ H.hp.ro _ (by omega)) rfl ?_; clear H; rintro v30 _ a w ⟨rfl, rfl⟩ - H; refine s_not H wn rfl rfl ?_; clear H; intro a H; refine s_move H wn rfl rfl ?_; clear H; intro a H; refine s_split H 32 rfl ?_ ?_
  · intro h32
    try have p32 := of_decide_eq_true h32
    (iterate 3 refine s_skip H rfl rfl h32 rfl ?_; clear H; intro a H); refine s_pick_t H wn rfl h32 rfl rfl ?_; clear H; intro a H; refine wl_nil ?_; refine hK5 _ _ ?_; clear hK5; refine c_cond_t H rfl rfl ?_; refine c_seq (fun _ hK6 => ?_); refine c_region ?_; refine s_call en11btk H wn rfl (known_spec _ _ H.hp.ro) rfl ?_; clear H; rintro v37 G37 a w rfl hm37 H; refine s_move H wn rfl rfl ?_; clear H; intro a H; refine s_split H 38 rfl ?_ ?_
    · intro h38
      try have p38 := of_decide_eq_true h38
      refine s_move H (wg H rfl rfl h38) rfl rfl ?_; clear H; intro a H; refine s_len un41btk H (wg H rfl rfl h38) rfl rfl ?_; clear H; intro a H; refine s_move H (wg H rfl rfl h38) rfl rfl ?_; clear H; intro a H; refine s_len un41btk H (wg H rfl rfl h38) rfl rfl ?_; clear H; intro a H; refine s_add _ H (wg H rfl rfl h38) rfl rfl rfl (by omega) (by omega) rfl ?_; clear H; intro a H; refine s_cmp H (wg H rfl rfl h38) rfl rfl rfl rfl ?_; clear H; intro a H; refine s_pick_t H wn rfl h38 rfl rfl ?_; clear H; intro a H; refine s_move H wn rfl rfl ?_; clear H; intro a H; refine s_split H 46 rfl ?_ ?_
      · intro h46
        try have p46 := of_decide_eq_true h46
        refine s_move H (wg H rfl rfl h46) rfl rfl ?_; clear H; intro a H; refine s_cmp H (wg H rfl rfl h46) rfl rfl rfl rfl ?_; clear H; intro a H; refine s_pick_t H wn rfl h46 rfl rfl ?_; clear H; intro a H; refine s_assign H wn rfl rfl ?_; clear H; intro a H; refine wl_nil ?_; refine hK6 _ _ ?_; clear hK6; refine c_ret ?_; refine (leave1 H Tryd.results7 (.cons (rv_tmp H rfl) .nil) ?_).1; exact H.hp.ret rfl
      intro h46
      try have p46 := of_decide_eq_false h46
      exact absurd h46 (by decide)
    intro h38
    try have p38 := of_decide_eq_false h38
    exact absurd h38 (by decide)
  intro h32
  try have p32 := of_decide_eq_false h32
  refine s_move H (wg H rfl rfl h32) rfl rfl ?_; clear H; intro a H; refine s_call en18btk H (wg H rfl rfl h32) rfl (valid_spec _ _ H.hp.ro _ (by omega)) rfl ?_; clear H; rintro v34 _ a w ⟨rfl, rfl⟩ - H; refine s_not H (wg H rfl rfl h32) rfl rfl ?_; clear H; intro a H; refine s_pick_f H wn rfl h32 rfl rfl ?_; clear H; intro a H; refine wl_nil ?_; refine hK5 _ _ ?_; clear hK5; refine c_cond H rfl ?_ ?_
  · intro h36
    try have p36 := of_decide_eq_true h36
    refine c_seq (fun _ hK7 => ?_); refine c_region ?_; refine s_call en11btk H wn rfl (known_spec _ _ H.hp.ro) rfl ?_; clear H; rintro v37 G37 a w rfl hm37 H; refine s_move H wn rfl rfl ?_; clear H; intro a H; refine s_split H 38 rfl ?_ ?_
    · intro h38
      try have p38 := of_decide_eq_true h38
      refine s_move H (wg H rfl rfl h38) rfl rfl ?_; clear H; intro a H; refine s_len un41btk H (wg H rfl rfl h38) rfl rfl ?_; clear H; intro a H; refine s_move H (wg H rfl rfl h38) rfl rfl ?_; clear H; intro a H; refine s_len un41btk H (wg H rfl rfl h38) rfl rfl ?_; clear H; intro a H; refine s_add _ H (wg H rfl rfl h38) rfl rfl rfl (by omega) (by omega) rfl ?_; clear H; intro a H; refine s_cmp H (wg H rfl rfl h38) rfl rfl rfl rfl ?_; clear H; intro a H; refine s_pick_t H wn rfl h38 rfl rfl ?_; clear H; intro a H; refine s_move H wn rfl rfl ?_; clear H; intro a H; refine s_split H 46 rfl ?_ ?_
      · intro h46
        try have p46 := of_decide_eq_true h46
        refine s_move H (wg H rfl rfl h46) rfl rfl ?_; clear H; intro a H; refine s_cmp H (wg H rfl rfl h46) rfl rfl rfl rfl ?_; clear H; intro a H; refine s_pick_t H wn rfl h46 rfl rfl ?_; clear H; intro a H; refine s_assign H wn rfl rfl ?_; clear H; intro a H; refine wl_nil ?_; refine hK7 _ _ ?_; clear hK7; refine c_ret ?_; refine (leave1 H Tryd.results7 (.cons (rv_tmp H rfl) .nil) ?_).1; exact H.hp.ret rfl
      intro h46
      try have p46 := of_decide_eq_false h46
      exact absurd h46 (by decide)
    intro h38
    try have p38 := of_decide_eq_false h38
    exact absurd h38 (by decide)
  intro h36
  try have p36 := of_decide_eq_false h36
  exact absurd (show validS (preS s) = true ∧ validS (preS t) = true from ⟨by simpa using h32, by simpa using h36⟩) hb
set_option maxHeartbeats 2000000 in
theorem tokens_ok (G : GH) (w0 : World) (hG : Hold G w0) (hT : TabsG G) (s t : ByteArray) (hb : validS (preS s) = true ∧ validS (preS t) = true) (hs : s.size ≤ 9223372036854775807) (ht : t.size ≤ 9223372036854775807) :
    Calls Tryd.prog 7 #[.string s, .string t] w0 (Ret w0 G fun u G' => u = .bool true) := by
  have hs2 := preS_size s; have ht2 := preS_size t; have okS : SOk G (preS s) := sok_valid hT (by omega) hb.1; have okT : SOk G (preS t) := sok_valid hT (by omega) hb.2; have hl1 := tkL_len (preS s); have hl2 := tkL_len (preS t); have ha := (tokP_all (tkL (preS s)) []).1; have hbb := (tokP_all (tkL (preS t)) (tokP (tkL (preS s)) []).2).1; rw [show (tokP (tkL (preS s)) []).1 = twoA (preS s) from rfl] at ha; rw [show (tokP (tkL (preS t)) (tokP (tkL (preS s)) []).2).1 = twoB (preS s) (preS t) from rfl] at hbb; have hml : maxLen = 9223372036854775807 := rfl; obtain ⟨X, hX⟩ : ∃ X, X = twoA (preS s) := ⟨_, rfl⟩; obtain ⟨Y, hY⟩ : ∃ Y, Y = twoB (preS s) (preS t) := ⟨_, rfl⟩; rw [← hX] at ha; rw [← hY] at hbb; refine enter (N := 106) (T := [(0, _), (1, _)]) (F := fun k => k < w0.heap.size) (L := []) Tryd.func7 rfl Tryd.ntmps7 rfl rfl hG (fun _ h => h) (fun _ h => by cases h) (fun _ h => by cases h) (fun _ h => by cases h) List.Pairwise.nil ?_; intro a H; refine c_seq (fun _ hK1 => ?_); refine c_region ?_; refine s_assign H wn rfl rfl ?_; clear H; intro a H; refine wl_nil ?_; refine hK1 _ _ ?_; clear hK1; refine c_seq (fun _ hK2 => ?_); have hvo0 := H.get 0 (.string s) rfl; have hvo1 := H.get 1 (.string t) rfl; have H := H.sub (T' := []) trivial; refine c_drawV (hmxb) [[], [], [1], [1, 2], [0, 1, 2, 3], [], [], [6], [6, 7], [5, 6, 7, 8], [0, 1, 2, 3, 4], [0, 1, 2, 3, 4, 5, 6, 7, 8, 9, 10]] (by kernel_rfl) ([(0, .string s, 10, false), (1, .string t, 11, false), (12, .string s, 0, true), (13, .string s, 1, true), (14, vi s.size, 2, true), (15, vi (min (s.size : Int) 200), 3, true), (16, .string (preS s), 4, true), (17, .string t, 5, true), (18, .string t, 6, true), (19, vi t.size, 7, true), (20, vi (min (t.size : Int) 200), 8, true), (21, .string (preS t), 9, true), (0, .string (preS s), 10, true), (1, .string (preS t), 11, true)]) H ?_ ?_ ?_
  · intro e he hS
    simp only [List.mem_cons, List.mem_nil_iff, or_false] at he
    rcases he with rfl | rfl | rfl | rfl | rfl | rfl | rfl | rfl | rfl | rfl | rfl | rfl | rfl | rfl
    · exact hvo0
    · exact hvo1
    · exact absurd (show false = true from hS) (by decide)
    · exact absurd (show false = true from hS) (by decide)
    · exact absurd (show false = true from hS) (by decide)
    · exact absurd (show false = true from hS) (by decide)
    · exact absurd (show false = true from hS) (by decide)
    · exact absurd (show false = true from hS) (by decide)
    · exact absurd (show false = true from hS) (by decide)
    · exact absurd (show false = true from hS) (by decide)
    · exact absurd (show false = true from hS) (by decide)
    · exact absurd (show false = true from hS) (by decide)
    · exact absurd (show false = true from hS) (by decide)
    exact absurd (show false = true from hS) (by decide)
  · clear H; refine (allI_cons ?_ (allI_cons ?_ (allI_cons ?_ (allI_cons ?_ (allI_cons ?_ (allI_cons ?_ (allI_cons ?_ (allI_cons ?_ (allI_cons ?_ (allI_cons ?_ (allI_cons ?_ (allI_cons ?_ allI_nil))))))))))))
    · intro Sd_ a w hSi hc hd HT hE; have H := HT; have H := H.addS (hE.at 0 rfl (hd 10 (by decide) (by decide))); have Hb := H.full; have H := Hb; clear hc; refine s_move H wn rfl rfl ?_; clear H; intro a H; refine wl_nil ⟨rfl, ?_⟩; refine drawV_val (by kernel_rfl) ?_ HT Hb hE H; intro e he h1 h2
      simp only [List.mem_cons, List.mem_nil_iff, or_false] at he
      rcases he with rfl | rfl | rfl | rfl | rfl | rfl | rfl | rfl | rfl | rfl | rfl | rfl | rfl | rfl
      · exact absurd (show false = true from h2) (by decide)
      · exact absurd (show false = true from h2) (by decide)
      · exact (rfl)
      · exact absurd (show (13 : Nat) = 12 from h1) (by decide)
      · exact absurd (show (14 : Nat) = 12 from h1) (by decide)
      · exact absurd (show (15 : Nat) = 12 from h1) (by decide)
      · exact absurd (show (16 : Nat) = 12 from h1) (by decide)
      · exact absurd (show (17 : Nat) = 12 from h1) (by decide)
      · exact absurd (show (18 : Nat) = 12 from h1) (by decide)
      · exact absurd (show (19 : Nat) = 12 from h1) (by decide)
      · exact absurd (show (20 : Nat) = 12 from h1) (by decide)
      · exact absurd (show (21 : Nat) = 12 from h1) (by decide)
      · exact absurd (show (0 : Nat) = 12 from h1) (by decide)
      exact absurd (show (1 : Nat) = 12 from h1) (by decide)
    · intro Sd_ a w hSi hc hd HT hE; have H := HT; have H := H.addS (hE.at 0 rfl (hd 10 (by decide) (by decide))); have Hb := H.full; have H := Hb; clear hc; refine s_move H wn rfl rfl ?_; clear H; intro a H; refine wl_nil ⟨rfl, ?_⟩; refine drawV_val (by kernel_rfl) ?_ HT Hb hE H; intro e he h1 h2
      simp only [List.mem_cons, List.mem_nil_iff, or_false] at he
      rcases he with rfl | rfl | rfl | rfl | rfl | rfl | rfl | rfl | rfl | rfl | rfl | rfl | rfl | rfl
      · exact absurd (show false = true from h2) (by decide)
      · exact absurd (show false = true from h2) (by decide)
      · exact absurd (show (12 : Nat) = 13 from h1) (by decide)
      · exact (rfl)
      · exact absurd (show (14 : Nat) = 13 from h1) (by decide)
      · exact absurd (show (15 : Nat) = 13 from h1) (by decide)
      · exact absurd (show (16 : Nat) = 13 from h1) (by decide)
      · exact absurd (show (17 : Nat) = 13 from h1) (by decide)
      · exact absurd (show (18 : Nat) = 13 from h1) (by decide)
      · exact absurd (show (19 : Nat) = 13 from h1) (by decide)
      · exact absurd (show (20 : Nat) = 13 from h1) (by decide)
      · exact absurd (show (21 : Nat) = 13 from h1) (by decide)
      · exact absurd (show (0 : Nat) = 13 from h1) (by decide)
      exact absurd (show (1 : Nat) = 13 from h1) (by decide)
    · intro Sd_ a w hSi hc hd HT hE; have H := HT; have H := H.addS (hE.at 3 rfl (hc 1 (by decide))); have Hb := H.full; have H := Hb; clear hc; refine s_lens un9btk H wn rfl rfl ?_; clear H; intro a H; refine wl_nil ⟨rfl, ?_⟩; refine drawV_val (by kernel_rfl) ?_ HT Hb hE H; intro e he h1 h2
      simp only [List.mem_cons, List.mem_nil_iff, or_false] at he
      rcases he with rfl | rfl | rfl | rfl | rfl | rfl | rfl | rfl | rfl | rfl | rfl | rfl | rfl | rfl
      · exact absurd (show false = true from h2) (by decide)
      · exact absurd (show false = true from h2) (by decide)
      · exact absurd (show (12 : Nat) = 14 from h1) (by decide)
      · exact absurd (show (13 : Nat) = 14 from h1) (by decide)
      · exact (rfl)
      · exact absurd (show (15 : Nat) = 14 from h1) (by decide)
      · exact absurd (show (16 : Nat) = 14 from h1) (by decide)
      · exact absurd (show (17 : Nat) = 14 from h1) (by decide)
      · exact absurd (show (18 : Nat) = 14 from h1) (by decide)
      · exact absurd (show (19 : Nat) = 14 from h1) (by decide)
      · exact absurd (show (20 : Nat) = 14 from h1) (by decide)
      · exact absurd (show (21 : Nat) = 14 from h1) (by decide)
      · exact absurd (show (0 : Nat) = 14 from h1) (by decide)
      exact absurd (show (1 : Nat) = 14 from h1) (by decide)
    · intro Sd_ a w hSi hc hd HT hE; have H := HT; have H := H.addS (hE.at 4 rfl (hc 2 (by decide))); have Hb := H.full; have H := Hb; clear hc; refine s_min H wn rfl rfl rfl ?_; clear H; intro a H; refine wl_nil ⟨rfl, ?_⟩; refine drawV_val (by kernel_rfl) ?_ HT Hb hE H; intro e he h1 h2
      simp only [List.mem_cons, List.mem_nil_iff, or_false] at he
      rcases he with rfl | rfl | rfl | rfl | rfl | rfl | rfl | rfl | rfl | rfl | rfl | rfl | rfl | rfl
      · exact absurd (show false = true from h2) (by decide)
      · exact absurd (show false = true from h2) (by decide)
      · exact absurd (show (12 : Nat) = 15 from h1) (by decide)
      · exact absurd (show (13 : Nat) = 15 from h1) (by decide)
      · exact absurd (show (14 : Nat) = 15 from h1) (by decide)
      · exact (rfl)
      · exact absurd (show (16 : Nat) = 15 from h1) (by decide)
      · exact absurd (show (17 : Nat) = 15 from h1) (by decide)
      · exact absurd (show (18 : Nat) = 15 from h1) (by decide)
      · exact absurd (show (19 : Nat) = 15 from h1) (by decide)
      · exact absurd (show (20 : Nat) = 15 from h1) (by decide)
      · exact absurd (show (21 : Nat) = 15 from h1) (by decide)
      · exact absurd (show (0 : Nat) = 15 from h1) (by decide)
      exact absurd (show (1 : Nat) = 15 from h1) (by decide)
    · intro Sd_ a w hSi hc hd HT hE; have H := HT; have H := H.addS (hE.at 2 rfl (hc 0 (by decide))); have H := H.addS (hE.at 5 rfl (hc 3 (by decide))); have Hb := H.full; have H := Hb; clear hc; refine s_strTo (min s.size 200) un9btk H wn rfl rfl (by omega) (by omega) rfl ?_; clear H; intro a H; refine wl_nil ⟨rfl, ?_⟩; refine drawV_val (by kernel_rfl) ?_ HT Hb hE H; intro e he h1 h2
      simp only [List.mem_cons, List.mem_nil_iff, or_false] at he
      rcases he with rfl | rfl | rfl | rfl | rfl | rfl | rfl | rfl | rfl | rfl | rfl | rfl | rfl | rfl
      · exact absurd (show false = true from h2) (by decide)
      · exact absurd (show false = true from h2) (by decide)
      · exact absurd (show (12 : Nat) = 16 from h1) (by decide)
      · exact absurd (show (13 : Nat) = 16 from h1) (by decide)
      · exact absurd (show (14 : Nat) = 16 from h1) (by decide)
      · exact absurd (show (15 : Nat) = 16 from h1) (by decide)
      · exact (rfl)
      · exact absurd (show (17 : Nat) = 16 from h1) (by decide)
      · exact absurd (show (18 : Nat) = 16 from h1) (by decide)
      · exact absurd (show (19 : Nat) = 16 from h1) (by decide)
      · exact absurd (show (20 : Nat) = 16 from h1) (by decide)
      · exact absurd (show (21 : Nat) = 16 from h1) (by decide)
      · exact absurd (show (0 : Nat) = 16 from h1) (by decide)
      exact absurd (show (1 : Nat) = 16 from h1) (by decide)
    · intro Sd_ a w hSi hc hd HT hE; have H := HT; have H := H.addS (hE.at 1 rfl (hd 11 (by decide) (by decide))); have Hb := H.full; have H := Hb; clear hc; refine s_move H wn rfl rfl ?_; clear H; intro a H; refine wl_nil ⟨rfl, ?_⟩; refine drawV_val (by kernel_rfl) ?_ HT Hb hE H; intro e he h1 h2
      simp only [List.mem_cons, List.mem_nil_iff, or_false] at he
      rcases he with rfl | rfl | rfl | rfl | rfl | rfl | rfl | rfl | rfl | rfl | rfl | rfl | rfl | rfl
      · exact absurd (show false = true from h2) (by decide)
      · exact absurd (show false = true from h2) (by decide)
      · exact absurd (show (12 : Nat) = 17 from h1) (by decide)
      · exact absurd (show (13 : Nat) = 17 from h1) (by decide)
      · exact absurd (show (14 : Nat) = 17 from h1) (by decide)
      · exact absurd (show (15 : Nat) = 17 from h1) (by decide)
      · exact absurd (show (16 : Nat) = 17 from h1) (by decide)
      · exact (rfl)
      · exact absurd (show (18 : Nat) = 17 from h1) (by decide)
      · exact absurd (show (19 : Nat) = 17 from h1) (by decide)
      · exact absurd (show (20 : Nat) = 17 from h1) (by decide)
      · exact absurd (show (21 : Nat) = 17 from h1) (by decide)
      · exact absurd (show (0 : Nat) = 17 from h1) (by decide)
      exact absurd (show (1 : Nat) = 17 from h1) (by decide)
    · intro Sd_ a w hSi hc hd HT hE; have H := HT; have H := H.addS (hE.at 1 rfl (hd 11 (by decide) (by decide))); have Hb := H.full; have H := Hb; clear hc; refine s_move H wn rfl rfl ?_; clear H; intro a H; refine wl_nil ⟨rfl, ?_⟩; refine drawV_val (by kernel_rfl) ?_ HT Hb hE H; intro e he h1 h2
      simp only [List.mem_cons, List.mem_nil_iff, or_false] at he
      rcases he with rfl | rfl | rfl | rfl | rfl | rfl | rfl | rfl | rfl | rfl | rfl | rfl | rfl | rfl
      · exact absurd (show false = true from h2) (by decide)
      · exact absurd (show false = true from h2) (by decide)
      · exact absurd (show (12 : Nat) = 18 from h1) (by decide)
      · exact absurd (show (13 : Nat) = 18 from h1) (by decide)
      · exact absurd (show (14 : Nat) = 18 from h1) (by decide)
      · exact absurd (show (15 : Nat) = 18 from h1) (by decide)
      · exact absurd (show (16 : Nat) = 18 from h1) (by decide)
      · exact absurd (show (17 : Nat) = 18 from h1) (by decide)
      · exact (rfl)
      · exact absurd (show (19 : Nat) = 18 from h1) (by decide)
      · exact absurd (show (20 : Nat) = 18 from h1) (by decide)
      · exact absurd (show (21 : Nat) = 18 from h1) (by decide)
      · exact absurd (show (0 : Nat) = 18 from h1) (by decide)
      exact absurd (show (1 : Nat) = 18 from h1) (by decide)
    · intro Sd_ a w hSi hc hd HT hE; have H := HT; have H := H.addS (hE.at 8 rfl (hc 6 (by decide))); have Hb := H.full; have H := Hb; clear hc; refine s_lens un9btk H wn rfl rfl ?_; clear H; intro a H; refine wl_nil ⟨rfl, ?_⟩; refine drawV_val (by kernel_rfl) ?_ HT Hb hE H; intro e he h1 h2
      simp only [List.mem_cons, List.mem_nil_iff, or_false] at he
      rcases he with rfl | rfl | rfl | rfl | rfl | rfl | rfl | rfl | rfl | rfl | rfl | rfl | rfl | rfl
      · exact absurd (show false = true from h2) (by decide)
      · exact absurd (show false = true from h2) (by decide)
      · exact absurd (show (12 : Nat) = 19 from h1) (by decide)
      · exact absurd (show (13 : Nat) = 19 from h1) (by decide)
      · exact absurd (show (14 : Nat) = 19 from h1) (by decide)
      · exact absurd (show (15 : Nat) = 19 from h1) (by decide)
      · exact absurd (show (16 : Nat) = 19 from h1) (by decide)
      · exact absurd (show (17 : Nat) = 19 from h1) (by decide)
      · exact absurd (show (18 : Nat) = 19 from h1) (by decide)
      · exact (rfl)
      · exact absurd (show (20 : Nat) = 19 from h1) (by decide)
      · exact absurd (show (21 : Nat) = 19 from h1) (by decide)
      · exact absurd (show (0 : Nat) = 19 from h1) (by decide)
      exact absurd (show (1 : Nat) = 19 from h1) (by decide)
    · intro Sd_ a w hSi hc hd HT hE; have H := HT; have H := H.addS (hE.at 9 rfl (hc 7 (by decide))); have Hb := H.full; have H := Hb; clear hc; refine s_min H wn rfl rfl rfl ?_; clear H; intro a H; refine wl_nil ⟨rfl, ?_⟩; refine drawV_val (by kernel_rfl) ?_ HT Hb hE H; intro e he h1 h2
      simp only [List.mem_cons, List.mem_nil_iff, or_false] at he
      rcases he with rfl | rfl | rfl | rfl | rfl | rfl | rfl | rfl | rfl | rfl | rfl | rfl | rfl | rfl
      · exact absurd (show false = true from h2) (by decide)
      · exact absurd (show false = true from h2) (by decide)
      · exact absurd (show (12 : Nat) = 20 from h1) (by decide)
      · exact absurd (show (13 : Nat) = 20 from h1) (by decide)
      · exact absurd (show (14 : Nat) = 20 from h1) (by decide)
      · exact absurd (show (15 : Nat) = 20 from h1) (by decide)
      · exact absurd (show (16 : Nat) = 20 from h1) (by decide)
      · exact absurd (show (17 : Nat) = 20 from h1) (by decide)
      · exact absurd (show (18 : Nat) = 20 from h1) (by decide)
      · exact absurd (show (19 : Nat) = 20 from h1) (by decide)
      · exact (rfl)
      · exact absurd (show (21 : Nat) = 20 from h1) (by decide)
      · exact absurd (show (0 : Nat) = 20 from h1) (by decide)
      exact absurd (show (1 : Nat) = 20 from h1) (by decide)
    · intro Sd_ a w hSi hc hd HT hE; have H := HT; have H := H.addS (hE.at 7 rfl (hc 5 (by decide))); have H := H.addS (hE.at 10 rfl (hc 8 (by decide))); have Hb := H.full; have H := Hb; clear hc; refine s_strTo (min t.size 200) un9btk H wn rfl rfl (by omega) (by omega) rfl ?_; clear H; intro a H; refine wl_nil ⟨rfl, ?_⟩; refine drawV_val (by kernel_rfl) ?_ HT Hb hE H; intro e he h1 h2
      simp only [List.mem_cons, List.mem_nil_iff, or_false] at he
      rcases he with rfl | rfl | rfl | rfl | rfl | rfl | rfl | rfl | rfl | rfl | rfl | rfl | rfl | rfl
      · exact absurd (show false = true from h2) (by decide)
      · exact absurd (show false = true from h2) (by decide)
      · exact absurd (show (12 : Nat) = 21 from h1) (by decide)
      · exact absurd (show (13 : Nat) = 21 from h1) (by decide)
      · exact absurd (show (14 : Nat) = 21 from h1) (by decide)
      · exact absurd (show (15 : Nat) = 21 from h1) (by decide)
      · exact absurd (show (16 : Nat) = 21 from h1) (by decide)
      · exact absurd (show (17 : Nat) = 21 from h1) (by decide)
      · exact absurd (show (18 : Nat) = 21 from h1) (by decide)
      · exact absurd (show (19 : Nat) = 21 from h1) (by decide)
      · exact absurd (show (20 : Nat) = 21 from h1) (by decide)
      · exact (rfl)
      · exact absurd (show (0 : Nat) = 21 from h1) (by decide)
      exact absurd (show (1 : Nat) = 21 from h1) (by decide)
    · intro Sd_ a w hSi hc hd HT hE; have H := HT; have H := H.addS (hE.at 6 rfl (hc 4 (by decide))); have Hb := H.full; have H := Hb; clear hc; refine s_assign H wn rfl rfl ?_; clear H; intro a H; refine wl_nil ⟨rfl, ?_⟩; refine drawV_val (by kernel_rfl) ?_ HT Hb hE H; intro e he h1 h2
      simp only [List.mem_cons, List.mem_nil_iff, or_false] at he
      rcases he with rfl | rfl | rfl | rfl | rfl | rfl | rfl | rfl | rfl | rfl | rfl | rfl | rfl | rfl
      · exact absurd (show false = true from h2) (by decide)
      · exact absurd (show false = true from h2) (by decide)
      · exact absurd (show (12 : Nat) = 0 from h1) (by decide)
      · exact absurd (show (13 : Nat) = 0 from h1) (by decide)
      · exact absurd (show (14 : Nat) = 0 from h1) (by decide)
      · exact absurd (show (15 : Nat) = 0 from h1) (by decide)
      · exact absurd (show (16 : Nat) = 0 from h1) (by decide)
      · exact absurd (show (17 : Nat) = 0 from h1) (by decide)
      · exact absurd (show (18 : Nat) = 0 from h1) (by decide)
      · exact absurd (show (19 : Nat) = 0 from h1) (by decide)
      · exact absurd (show (20 : Nat) = 0 from h1) (by decide)
      · exact absurd (show (21 : Nat) = 0 from h1) (by decide)
      · exact (rfl)
      exact absurd (show (1 : Nat) = 0 from h1) (by decide)
    intro Sd_ a w hSi hc hd HT hE; have H := HT; have H := H.addS (hE.at 11 rfl (hc 9 (by decide))); have Hb := H.full; have H := Hb; clear hc; refine s_assign H wn rfl rfl ?_; clear H; intro a H; refine wl_nil ⟨rfl, ?_⟩; refine drawV_val (by kernel_rfl) ?_ HT Hb hE H; intro e he h1 h2
    simp only [List.mem_cons, List.mem_nil_iff, or_false] at he
    rcases he with rfl | rfl | rfl | rfl | rfl | rfl | rfl | rfl | rfl | rfl | rfl | rfl | rfl | rfl
    · exact absurd (show false = true from h2) (by decide)
    · exact absurd (show false = true from h2) (by decide)
    · exact absurd (show (12 : Nat) = 1 from h1) (by decide)
    · exact absurd (show (13 : Nat) = 1 from h1) (by decide)
    · exact absurd (show (14 : Nat) = 1 from h1) (by decide)
    · exact absurd (show (15 : Nat) = 1 from h1) (by decide)
    · exact absurd (show (16 : Nat) = 1 from h1) (by decide)
    · exact absurd (show (17 : Nat) = 1 from h1) (by decide)
    · exact absurd (show (18 : Nat) = 1 from h1) (by decide)
    · exact absurd (show (19 : Nat) = 1 from h1) (by decide)
    · exact absurd (show (20 : Nat) = 1 from h1) (by decide)
    · exact absurd (show (21 : Nat) = 1 from h1) (by decide)
    · exact absurd (show (0 : Nat) = 1 from h1) (by decide)
    exact (rfl)
  clear H; intro Sd_ a w hall H hE; have H := H.addS (hE.at 12 rfl (hall 10 (by decide))); have H := H.addS (hE.at 13 rfl (hall 11 (by decide))); clear hE hall; skip; refine hK2 _ _ ?_; clear hK2; refine c_seq (fun _ hK3 => ?_); refine c_region ?_; (iterate 2 refine s_move H wn rfl rfl ?_; clear H; intro a H); refine s_call en17btk H wn rfl (btwo_spec _ _ H.hp.ro (fun _ _ h => h) _ _ okS okT (by omega) (by omega)) rfl ?_; clear H; rintro v25 G25 a w ⟨x25, y25, rfl, hx, hy⟩ hm25 H; rw [← hX] at hx; rw [← hY] at hy; obtain ⟨xA, xc, rfl, -, -, -⟩ := hx.slice; obtain ⟨yA, yc, rfl, -, -, -⟩ := hy.slice; (iterate 2 rw [List.length_map] at H); refine s_move H wn rfl rfl ?_; clear H; intro a H; (iterate 3 refine s_extract H wn rfl rfl rfl ?_; clear H; intro a H); (iterate 3 refine s_assign H wn rfl rfl ?_; clear H; intro a H); refine wl_nil ?_; refine hK3 _ _ ?_; clear hK3; refine c_seq (fun _ hK4 => ?_); refine c_seq (fun _ hK5 => ?_); refine c_region ?_; refine s_move H wn rfl rfl ?_; clear H; intro a H; refine s_call en18btk H wn rfl (valid_spec _ _ H.hp.ro _ (by omega)) rfl ?_; clear H; rintro v30 _ a w ⟨rfl, rfl⟩ - H; rw [hb.1] at H; refine s_not H wn rfl rfl ?_; clear H; intro a H; refine s_move H wn rfl rfl ?_; clear H; intro a H; refine s_split H 32 rfl ?_ ?_
  · intro h32
    try have p32 := of_decide_eq_true h32
    exact absurd h32 (by decide)
  intro h32
  try have p32 := of_decide_eq_false h32
  refine s_move H (wg H rfl rfl h32) rfl rfl ?_; clear H; intro a H; refine s_call en18btk H (wg H rfl rfl h32) rfl (valid_spec _ _ H.hp.ro _ (by omega)) rfl ?_; clear H; rintro v34 _ a w ⟨rfl, rfl⟩ - H; rw [hb.2] at H; refine s_not H (wg H rfl rfl h32) rfl rfl ?_; clear H; intro a H; refine s_pick_f H wn rfl h32 rfl rfl ?_; clear H; intro a H; refine wl_nil ?_; refine hK5 _ _ ?_; clear hK5; refine c_cond H rfl ?_ ?_
  · intro h36
    try have p36 := of_decide_eq_true h36
    exact absurd h36 (by decide)
  intro h36
  try have p36 := of_decide_eq_false h36
  refine c_skip ?_; refine hK4 _ _ ?_; clear hK4; refine c_seq (fun _ hK6 => ?_); refine c_region ?_; (iterate 2 refine s_move H wn rfl rfl ?_; clear H; intro a H); refine s_call en19btk H wn rfl (mtokens_spec _ _ H.hp.ro hm25 _ _ okS okT (by omega) (by omega)) rfl ?_; clear H; rintro v53 G53 a w ⟨x53, y53, rfl, hu, hv⟩ hm53 H; rw [← hX] at hu; rw [← hY] at hv; obtain ⟨uA, uc, rfl, -, -, -⟩ := hu.slice; obtain ⟨vA, vc, rfl, -, -, -⟩ := hv.slice; (iterate 2 rw [List.length_map] at H); replace hx := hx.mono hm53; replace hy := hy.mono hm53; refine s_move H wn rfl rfl ?_; clear H; intro a H; (iterate 2 refine s_extract H wn rfl rfl rfl ?_; clear H; intro a H); (iterate 2 refine s_assign H wn rfl rfl ?_; clear H; intro a H); refine wl_nil ?_; refine hK6 _ _ ?_; clear hK6; refine c_seq (fun _ hK7 => ?_); refine c_seq (fun _ hK8 => ?_); refine c_region ?_; refine s_call en11btk H wn rfl (known_spec _ _ H.hp.ro) rfl ?_; clear H; rintro v56 G56 a w rfl hm56 H; replace hx := hx.mono hm56; replace hy := hy.mono hm56; replace hu := hu.mono hm56; replace hv := hv.mono hm56; rw [List.length_map] at hx hy hu hv; refine s_not H wn rfl rfl ?_; clear H; intro a H; refine s_move H wn rfl rfl ?_; clear H; intro a H; refine s_split H 58 rfl ?_ ?_
  · intro h58
    try have p58 := of_decide_eq_true h58
    exact absurd h58 (by decide)
  intro h58
  try have p58 := of_decide_eq_false h58
  refine s_move H (wg H rfl rfl h58) rfl rfl ?_; clear H; intro a H; refine s_cmp H (wg H rfl rfl h58) rfl rfl rfl rfl ?_; clear H; intro a H; refine s_pick_f H wn rfl h58 rfl rfl ?_; clear H; intro a H; refine s_move H wn rfl rfl ?_; clear H; intro a H; refine s_split H 62 rfl ?_ ?_
  · intro h62
    try have p62 := of_decide_eq_true h62
    exact absurd h62 (by decide)
  intro h62
  try have p62 := of_decide_eq_false h62
  refine s_move H (wg H rfl rfl h62) rfl rfl ?_; clear H; intro a H; refine s_len un41btk H (wg H rfl rfl h62) rfl rfl ?_; clear H; intro a H; refine s_move H (wg H rfl rfl h62) rfl rfl ?_; clear H; intro a H; refine s_len un41btk H (wg H rfl rfl h62) rfl rfl ?_; clear H; intro a H; refine s_cmp H (wg H rfl rfl h62) rfl rfl rfl rfl ?_; clear H; intro a H; refine s_pick_f H wn rfl h62 rfl rfl ?_; clear H; intro a H; refine s_move H wn rfl rfl ?_; clear H; intro a H; refine s_split H 69 rfl ?_ ?_
  · intro h69
    try have p69 := of_decide_eq_true h69
    exact absurd h69 (by simp)
  intro h69
  try have p69 := of_decide_eq_false h69
  refine s_move H (wg H rfl rfl h69) rfl rfl ?_; clear H; intro a H; refine s_len un41btk H (wg H rfl rfl h69) rfl rfl ?_; clear H; intro a H; refine s_move H (wg H rfl rfl h69) rfl rfl ?_; clear H; intro a H; refine s_len un41btk H (wg H rfl rfl h69) rfl rfl ?_; clear H; intro a H; refine s_cmp H (wg H rfl rfl h69) rfl rfl rfl rfl ?_; clear H; intro a H; refine s_pick_f H wn rfl h69 rfl rfl ?_; clear H; intro a H; refine wl_nil ?_; refine hK8 _ _ ?_; clear hK8; refine c_cond H rfl ?_ ?_
  · intro h75
    try have p75 := of_decide_eq_true h75
    exact absurd h75 (by simp)
  intro h75
  try have p75 := of_decide_eq_false h75
  refine c_skip ?_; refine hK7 _ _ ?_; clear hK7; refine c_seq (fun _ hK9 => ?_); refine c_seq (fun _ hK10 => ?_); refine c_region ?_; refine s_assign H wn rfl rfl ?_; clear H; intro a H; refine wl_nil ?_; refine hK10 _ _ ?_; clear hK10; refine c_block ?_; skip; refine c_loopS (ι := Nat × GH) (Tc := [(5, _), (6, _), (8, _), (9, _)]) (Lc := []) (fun (gh : Nat × GH) => [(10, vi gh.1)]) (fun (gh : Nat × GH) => []) (fun (gh : Nat × GH) => gh.2) (fun (gh : Nat × GH) => gh.1 ≤ X.length ∧ (∀ b o, G56 b = some o → gh.2 b = some o)) (fun (gh : Nat × GH) => X.length - gh.1) ((0, G56)) (by exact (H).sub ⟨rfl, rfl, rfl, rfl, rfl, trivial⟩) ?_ ?_
  · exact ⟨Nat.zero_le _, fun _ _ h => h⟩
  clear H; intro gh a w hI H; obtain ⟨k, g⟩ := gh; dsimp only at hI H; obtain ⟨hk, hgm⟩ := hI; dsimp only [List.cons_append, List.nil_append, List.append_nil] at H; refine c_seq (fun _ hK11 => ?_); refine c_seq (fun _ hK12 => ?_); refine c_region ?_; (iterate 2 refine s_move H wn rfl rfl ?_; clear H; intro a H); refine s_len un41btk H wn rfl rfl ?_; clear H; intro a H; refine s_cmp H wn rfl rfl rfl rfl ?_; clear H; intro a H; refine wl_nil ?_; refine hK12 _ _ ?_; clear hK12; refine c_cond H rfl ?_ ?_
  · intro h79
    try have p79 := of_decide_eq_true h79
    have hk1 : k < X.length := by omega
    obtain ⟨b1, o1, rfl, hrow1⟩ := tok_at (hx.mono hgm) hk1; obtain ⟨b2, o2, rfl, hrow2⟩ := tok_at (hu.mono hgm) hk1; refine c_skip ?_; refine hK11 _ _ ?_; clear hK11; refine c_seq (fun _ hK13 => ?_); refine c_block ?_; refine c_seq (fun _ hK14 => ?_)
    have hprm11 : ∀ (ix_ : Nat) (v : Value) (G G' : GH), (∀ k o, G k = some o → G' k = some o) → (fun (ix_ : Nat) (v : Value) (G : GH) => match ix_ with | 0 => v = .slice (some ⟨b1, o1, none⟩) X.length xc | 1 => v = vi k | 2 => v = .pointer (some ⟨b1, o1 + k * 2, none⟩) | 3 => v = .agg #[vi X[k].key, vi X[k].weight] | 4 => v = .slice (some ⟨b2, o2, none⟩) X.length uc | 5 => v = vi k | 6 => v = .pointer (some ⟨b2, o2 + k * 2, none⟩) | 7 => v = .agg #[vi X[k].key, vi X[k].weight] | 8 => v = .bool false | _ => True) ix_ v G → (fun (ix_ : Nat) (v : Value) (G : GH) => match ix_ with | 0 => v = .slice (some ⟨b1, o1, none⟩) X.length xc | 1 => v = vi k | 2 => v = .pointer (some ⟨b1, o1 + k * 2, none⟩) | 3 => v = .agg #[vi X[k].key, vi X[k].weight] | 4 => v = .slice (some ⟨b2, o2, none⟩) X.length uc | 5 => v = vi k | 6 => v = .pointer (some ⟨b2, o2 + k * 2, none⟩) | 7 => v = .agg #[vi X[k].key, vi X[k].weight] | 8 => v = .bool false | _ => True) ix_ v G' := by
      intro ix_ v G G' hm h
      match ix_, h with
      | 0, h => exact h
      | 1, h => exact h
      | 2, h => exact h
      | 3, h => exact h
      | 4, h => exact h
      | 5, h => exact h
      | 6, h => exact h
      | 7, h => exact h
      | 8, h => exact h
      | _ + 9, h => exact trivial
    refine c_drawI (hmxb) [[], [], [0, 1], [0, 1, 2], [], [], [4, 5], [4, 5, 6], [0, 1, 2, 3, 4, 5, 6, 7]] [] (by kernel_rfl) (by kernel_rfl) (fun (ix_ : Nat) (v : Value) (G : GH) => match ix_ with | 0 => v = .slice (some ⟨b1, o1, none⟩) X.length xc | 1 => v = vi k | 2 => v = .pointer (some ⟨b1, o1 + k * 2, none⟩) | 3 => v = .agg #[vi X[k].key, vi X[k].weight] | 4 => v = .slice (some ⟨b2, o2, none⟩) X.length uc | 5 => v = vi k | 6 => v = .pointer (some ⟨b2, o2 + k * 2, none⟩) | 7 => v = .agg #[vi X[k].key, vi X[k].weight] | 8 => v = .bool false | _ => True) hprm11 H ?_ ?_
    · clear H; refine (allI_cons ?_ (allI_cons ?_ (allI_cons ?_ (allI_cons ?_ (allI_cons ?_ (allI_cons ?_ (allI_cons ?_ (allI_cons ?_ (allI_cons ?_ allI_nil)))))))))
      · intro Sd_ a w G1 _ hSi hc hG HT hv; have H := HT; clear hSi; have Hb := H.full; have H := Hb; clear hc; refine s_move H wn rfl rfl ?_; clear H; intro a H; refine wl_nil ⟨rfl, ?_⟩; exact draw_val (by kernel_rfl) hprm11 rfl rfl HT Hb hG hv (fun _ _ h => h) (rfl) H
      · intro Sd_ a w G1 _ hSi hc hG HT hv; have H := HT; clear hSi; have Hb := H.full; have H := Hb; clear hc; refine s_move H wn rfl rfl ?_; clear H; intro a H; refine wl_nil ⟨rfl, ?_⟩; exact draw_val (by kernel_rfl) hprm11 rfl rfl HT Hb hG hv (fun _ _ h => h) (rfl) H
      · intro Sd_ a w G1 _ hSi hc hG HT hv; have H := HT; clear hSi; obtain ⟨u82, hu82, hp82⟩ := hv 0 82 (hc 0 (by decide)) rfl; obtain rfl : u82 = .slice (some ⟨b1, o1, none⟩) X.length xc := hp82; have H := H.addS hu82; obtain ⟨u83, hu83, hp83⟩ := hv 1 83 (hc 1 (by decide)) rfl; obtain rfl : u83 = vi k := hp83; have H := H.addS hu83; have Hb := H.full; have H := Hb; clear hc; refine s_index un41btk ty48btk k H wn rfl rfl rfl hk1 rfl ?_; clear H; intro a H; refine wl_nil ⟨rfl, ?_⟩; exact draw_val (by kernel_rfl) hprm11 rfl rfl HT Hb hG hv (fun _ _ h => h) (rfl) H
      · intro Sd_ a w G1 _ hSi hc hG HT hv; have H := HT; clear hSi; obtain ⟨u84, hu84, hp84⟩ := hv 2 84 (hc 2 (by decide)) rfl; obtain rfl : u84 = .pointer (some ⟨b1, o1 + k * 2, none⟩) := hp84; have H := H.addS hu84; have Hb := H.full; have H := Hb; clear hc; refine s_loada ty48btk (cs := [_, _]) H wn rfl rfl (fun j v hj => H.hp.gcell (gcell_mono hG (hrow1 j v hj))) rfl ?_; clear H; intro a H; refine wl_nil ⟨rfl, ?_⟩; exact draw_val (by kernel_rfl) hprm11 rfl rfl HT Hb hG hv (fun _ _ h => h) (rfl) H
      · intro Sd_ a w G1 _ hSi hc hG HT hv; have H := HT; clear hSi; have Hb := H.full; have H := Hb; clear hc; refine s_move H wn rfl rfl ?_; clear H; intro a H; refine wl_nil ⟨rfl, ?_⟩; exact draw_val (by kernel_rfl) hprm11 rfl rfl HT Hb hG hv (fun _ _ h => h) (rfl) H
      · intro Sd_ a w G1 _ hSi hc hG HT hv; have H := HT; clear hSi; have Hb := H.full; have H := Hb; clear hc; refine s_move H wn rfl rfl ?_; clear H; intro a H; refine wl_nil ⟨rfl, ?_⟩; exact draw_val (by kernel_rfl) hprm11 rfl rfl HT Hb hG hv (fun _ _ h => h) (rfl) H
      · intro Sd_ a w G1 _ hSi hc hG HT hv; have H := HT; clear hSi; obtain ⟨u86, hu86, hp86⟩ := hv 4 86 (hc 4 (by decide)) rfl; obtain rfl : u86 = .slice (some ⟨b2, o2, none⟩) X.length uc := hp86; have H := H.addS hu86; obtain ⟨u87, hu87, hp87⟩ := hv 5 87 (hc 5 (by decide)) rfl; obtain rfl : u87 = vi k := hp87; have H := H.addS hu87; have Hb := H.full; have H := Hb; clear hc; refine s_index un41btk ty48btk k H wn rfl rfl rfl hk1 rfl ?_; clear H; intro a H; refine wl_nil ⟨rfl, ?_⟩; exact draw_val (by kernel_rfl) hprm11 rfl rfl HT Hb hG hv (fun _ _ h => h) (rfl) H
      · intro Sd_ a w G1 _ hSi hc hG HT hv; have H := HT; clear hSi; obtain ⟨u88, hu88, hp88⟩ := hv 6 88 (hc 6 (by decide)) rfl; obtain rfl : u88 = .pointer (some ⟨b2, o2 + k * 2, none⟩) := hp88; have H := H.addS hu88; have Hb := H.full; have H := Hb; clear hc; refine s_loada ty48btk (cs := [_, _]) H wn rfl rfl (fun j v hj => H.hp.gcell (gcell_mono hG (hrow2 j v hj))) rfl ?_; clear H; intro a H; refine wl_nil ⟨rfl, ?_⟩; exact draw_val (by kernel_rfl) hprm11 rfl rfl HT Hb hG hv (fun _ _ h => h) (rfl) H
      intro Sd_ a w G1 _ hSi hc hG HT hv; have H := HT; clear hSi; obtain ⟨u85, hu85, hp85⟩ := hv 3 85 (hc 3 (by decide)) rfl; obtain rfl : u85 = .agg #[vi X[k].key, vi X[k].weight] := hp85; have H := H.addS hu85; obtain ⟨u89, hu89, hp89⟩ := hv 7 89 (hc 7 (by decide)) rfl; obtain rfl : u89 = .agg #[vi X[k].key, vi X[k].weight] := hp89; have H := H.addS hu89; have Hb := H.full; have H := Hb; clear hc; refine s_eqs (.inr rfl) eqs48btk H wn rfl rfl rfl rfl ?_; clear H; intro a H; refine wl_nil ⟨rfl, ?_⟩; exact draw_val (by kernel_rfl) hprm11 rfl rfl HT Hb hG hv (fun _ _ h => h) (by simp [getV]) H
    clear H; intro a w G hGm11 H hv; obtain ⟨u90, hu90, hp90⟩ := hv 8 90 (by decide) rfl; obtain rfl : u90 = .bool false := hp90; have H := H.addS hu90; clear hv; refine wl_nil ⟨rfl, ?_⟩; refine hK14 _ _ ?_; clear hK14; refine c_cond_f H rfl rfl ?_; refine c_skip ?_; refine hK13 _ _ ?_; clear hK13; refine c_region ?_; refine s_move H wn rfl rfl ?_; clear H; intro a H; refine s_add _ H wn rfl rfl rfl (by omega) (by omega) rfl ?_; clear H; intro a H; refine s_assign H wn rfl rfl ?_; clear H; intro a H; refine wl_nil ?_; refine loop_end ((k + 1, G)) (by exact (H).sub ⟨rfl, rfl, rfl, rfl, rfl, trivial⟩) ?_ ?_
    · (try dsimp only); exact ⟨by omega, fun b o h => hGm11 b o (hgm b o h)⟩
    first | omega | (dsimp only; omega)
  intro h79
  try have p79 := of_decide_eq_false h79
  refine c_exit ?_; refine hK9 _ _ ?_; clear hK9; refine c_seq (fun _ hK15 => ?_); refine c_seq (fun _ hK16 => ?_); refine c_region ?_; refine s_assign H wn rfl rfl ?_; clear H; intro a H; refine wl_nil ?_; refine hK16 _ _ ?_; clear hK16; refine c_block ?_; skip; refine c_loopS (ι := Nat × GH) (Tc := [(6, _), (9, _)]) (Lc := []) (fun (gh : Nat × GH) => [(11, vi gh.1)]) (fun (gh : Nat × GH) => []) (fun (gh : Nat × GH) => gh.2) (fun (gh : Nat × GH) => gh.1 ≤ Y.length ∧ (∀ b o, G56 b = some o → gh.2 b = some o)) (fun (gh : Nat × GH) => Y.length - gh.1) ((0, g)) (by exact (H).sub ⟨rfl, rfl, rfl, trivial⟩) ?_ ?_
  · exact ⟨Nat.zero_le _, hgm⟩
  clear H; intro gh a w hI H; obtain ⟨k2, g2⟩ := gh; dsimp only at hI H; obtain ⟨hk2, hgm2⟩ := hI; dsimp only [List.cons_append, List.nil_append, List.append_nil] at H; refine c_seq (fun _ hK17 => ?_); refine c_seq (fun _ hK18 => ?_); refine c_region ?_; (iterate 2 refine s_move H wn rfl rfl ?_; clear H; intro a H); refine s_len un41btk H wn rfl rfl ?_; clear H; intro a H; refine s_cmp H wn rfl rfl rfl rfl ?_; clear H; intro a H; refine wl_nil ?_; refine hK18 _ _ ?_; clear hK18; refine c_cond H rfl ?_ ?_
  · intro h94
    try have p94 := of_decide_eq_true h94
    have hk3 : k2 < Y.length := by omega
    obtain ⟨b1, o1, rfl, hrow1⟩ := tok_at (hy.mono hgm2) hk3; obtain ⟨b2, o2, rfl, hrow2⟩ := tok_at (hv.mono hgm2) hk3; refine c_skip ?_; refine hK17 _ _ ?_; clear hK17; refine c_seq (fun _ hK19 => ?_); refine c_block ?_; refine c_seq (fun _ hK20 => ?_)
    have hprm16 : ∀ (ix_ : Nat) (v : Value) (G G' : GH), (∀ k o, G k = some o → G' k = some o) → (fun (ix_ : Nat) (v : Value) (G : GH) => match ix_ with | 0 => v = .slice (some ⟨b1, o1, none⟩) Y.length yc | 1 => v = vi k2 | 2 => v = .pointer (some ⟨b1, o1 + k2 * 2, none⟩) | 3 => v = .agg #[vi Y[k2].key, vi Y[k2].weight] | 4 => v = .slice (some ⟨b2, o2, none⟩) Y.length vc | 5 => v = vi k2 | 6 => v = .pointer (some ⟨b2, o2 + k2 * 2, none⟩) | 7 => v = .agg #[vi Y[k2].key, vi Y[k2].weight] | 8 => v = .bool false | _ => True) ix_ v G → (fun (ix_ : Nat) (v : Value) (G : GH) => match ix_ with | 0 => v = .slice (some ⟨b1, o1, none⟩) Y.length yc | 1 => v = vi k2 | 2 => v = .pointer (some ⟨b1, o1 + k2 * 2, none⟩) | 3 => v = .agg #[vi Y[k2].key, vi Y[k2].weight] | 4 => v = .slice (some ⟨b2, o2, none⟩) Y.length vc | 5 => v = vi k2 | 6 => v = .pointer (some ⟨b2, o2 + k2 * 2, none⟩) | 7 => v = .agg #[vi Y[k2].key, vi Y[k2].weight] | 8 => v = .bool false | _ => True) ix_ v G' := by
      intro ix_ v G G' hm h
      match ix_, h with
      | 0, h => exact h
      | 1, h => exact h
      | 2, h => exact h
      | 3, h => exact h
      | 4, h => exact h
      | 5, h => exact h
      | 6, h => exact h
      | 7, h => exact h
      | 8, h => exact h
      | _ + 9, h => exact trivial
    refine c_drawI (hmxb) [[], [], [0, 1], [0, 1, 2], [], [], [4, 5], [4, 5, 6], [0, 1, 2, 3, 4, 5, 6, 7]] [] (by kernel_rfl) (by kernel_rfl) (fun (ix_ : Nat) (v : Value) (G : GH) => match ix_ with | 0 => v = .slice (some ⟨b1, o1, none⟩) Y.length yc | 1 => v = vi k2 | 2 => v = .pointer (some ⟨b1, o1 + k2 * 2, none⟩) | 3 => v = .agg #[vi Y[k2].key, vi Y[k2].weight] | 4 => v = .slice (some ⟨b2, o2, none⟩) Y.length vc | 5 => v = vi k2 | 6 => v = .pointer (some ⟨b2, o2 + k2 * 2, none⟩) | 7 => v = .agg #[vi Y[k2].key, vi Y[k2].weight] | 8 => v = .bool false | _ => True) hprm16 H ?_ ?_
    · clear H; refine (allI_cons ?_ (allI_cons ?_ (allI_cons ?_ (allI_cons ?_ (allI_cons ?_ (allI_cons ?_ (allI_cons ?_ (allI_cons ?_ (allI_cons ?_ allI_nil)))))))))
      · intro Sd_ a w G1 _ hSi hc hG HT hv; have H := HT; clear hSi; have Hb := H.full; have H := Hb; clear hc; refine s_move H wn rfl rfl ?_; clear H; intro a H; refine wl_nil ⟨rfl, ?_⟩; exact draw_val (by kernel_rfl) hprm16 rfl rfl HT Hb hG hv (fun _ _ h => h) (rfl) H
      · intro Sd_ a w G1 _ hSi hc hG HT hv; have H := HT; clear hSi; have Hb := H.full; have H := Hb; clear hc; refine s_move H wn rfl rfl ?_; clear H; intro a H; refine wl_nil ⟨rfl, ?_⟩; exact draw_val (by kernel_rfl) hprm16 rfl rfl HT Hb hG hv (fun _ _ h => h) (rfl) H
      · intro Sd_ a w G1 _ hSi hc hG HT hv; have H := HT; clear hSi; obtain ⟨u97, hu97, hp97⟩ := hv 0 97 (hc 0 (by decide)) rfl; obtain rfl : u97 = .slice (some ⟨b1, o1, none⟩) Y.length yc := hp97; have H := H.addS hu97; obtain ⟨u98, hu98, hp98⟩ := hv 1 98 (hc 1 (by decide)) rfl; obtain rfl : u98 = vi k2 := hp98; have H := H.addS hu98; have Hb := H.full; have H := Hb; clear hc; refine s_index un41btk ty48btk k2 H wn rfl rfl rfl hk3 rfl ?_; clear H; intro a H; refine wl_nil ⟨rfl, ?_⟩; exact draw_val (by kernel_rfl) hprm16 rfl rfl HT Hb hG hv (fun _ _ h => h) (rfl) H
      · intro Sd_ a w G1 _ hSi hc hG HT hv; have H := HT; clear hSi; obtain ⟨u99, hu99, hp99⟩ := hv 2 99 (hc 2 (by decide)) rfl; obtain rfl : u99 = .pointer (some ⟨b1, o1 + k2 * 2, none⟩) := hp99; have H := H.addS hu99; have Hb := H.full; have H := Hb; clear hc; refine s_loada ty48btk (cs := [_, _]) H wn rfl rfl (fun j v hj => H.hp.gcell (gcell_mono hG (hrow1 j v hj))) rfl ?_; clear H; intro a H; refine wl_nil ⟨rfl, ?_⟩; exact draw_val (by kernel_rfl) hprm16 rfl rfl HT Hb hG hv (fun _ _ h => h) (rfl) H
      · intro Sd_ a w G1 _ hSi hc hG HT hv; have H := HT; clear hSi; have Hb := H.full; have H := Hb; clear hc; refine s_move H wn rfl rfl ?_; clear H; intro a H; refine wl_nil ⟨rfl, ?_⟩; exact draw_val (by kernel_rfl) hprm16 rfl rfl HT Hb hG hv (fun _ _ h => h) (rfl) H
      · intro Sd_ a w G1 _ hSi hc hG HT hv; have H := HT; clear hSi; have Hb := H.full; have H := Hb; clear hc; refine s_move H wn rfl rfl ?_; clear H; intro a H; refine wl_nil ⟨rfl, ?_⟩; exact draw_val (by kernel_rfl) hprm16 rfl rfl HT Hb hG hv (fun _ _ h => h) (rfl) H
      · intro Sd_ a w G1 _ hSi hc hG HT hv; have H := HT; clear hSi; obtain ⟨u101, hu101, hp101⟩ := hv 4 101 (hc 4 (by decide)) rfl; obtain rfl : u101 = .slice (some ⟨b2, o2, none⟩) Y.length vc := hp101; have H := H.addS hu101; obtain ⟨u102, hu102, hp102⟩ := hv 5 102 (hc 5 (by decide)) rfl; obtain rfl : u102 = vi k2 := hp102; have H := H.addS hu102; have Hb := H.full; have H := Hb; clear hc; refine s_index un41btk ty48btk k2 H wn rfl rfl rfl hk3 rfl ?_; clear H; intro a H; refine wl_nil ⟨rfl, ?_⟩; exact draw_val (by kernel_rfl) hprm16 rfl rfl HT Hb hG hv (fun _ _ h => h) (rfl) H
      · intro Sd_ a w G1 _ hSi hc hG HT hv; have H := HT; clear hSi; obtain ⟨u103, hu103, hp103⟩ := hv 6 103 (hc 6 (by decide)) rfl; obtain rfl : u103 = .pointer (some ⟨b2, o2 + k2 * 2, none⟩) := hp103; have H := H.addS hu103; have Hb := H.full; have H := Hb; clear hc; refine s_loada ty48btk (cs := [_, _]) H wn rfl rfl (fun j v hj => H.hp.gcell (gcell_mono hG (hrow2 j v hj))) rfl ?_; clear H; intro a H; refine wl_nil ⟨rfl, ?_⟩; exact draw_val (by kernel_rfl) hprm16 rfl rfl HT Hb hG hv (fun _ _ h => h) (rfl) H
      intro Sd_ a w G1 _ hSi hc hG HT hv; have H := HT; clear hSi; obtain ⟨u100, hu100, hp100⟩ := hv 3 100 (hc 3 (by decide)) rfl; obtain rfl : u100 = .agg #[vi Y[k2].key, vi Y[k2].weight] := hp100; have H := H.addS hu100; obtain ⟨u104, hu104, hp104⟩ := hv 7 104 (hc 7 (by decide)) rfl; obtain rfl : u104 = .agg #[vi Y[k2].key, vi Y[k2].weight] := hp104; have H := H.addS hu104; have Hb := H.full; have H := Hb; clear hc; refine s_eqs (.inr rfl) eqs48btk H wn rfl rfl rfl rfl ?_; clear H; intro a H; refine wl_nil ⟨rfl, ?_⟩; exact draw_val (by kernel_rfl) hprm16 rfl rfl HT Hb hG hv (fun _ _ h => h) (by simp [getV]) H
    clear H; intro a w G hGm16 H hv; obtain ⟨u105, hu105, hp105⟩ := hv 8 105 (by decide) rfl; obtain rfl : u105 = .bool false := hp105; have H := H.addS hu105; clear hv; refine wl_nil ⟨rfl, ?_⟩; refine hK20 _ _ ?_; clear hK20; refine c_cond_f H rfl rfl ?_; refine c_skip ?_; refine hK19 _ _ ?_; clear hK19; refine c_region ?_; refine s_move H wn rfl rfl ?_; clear H; intro a H; refine s_add _ H wn rfl rfl rfl (by omega) (by omega) rfl ?_; clear H; intro a H; refine s_assign H wn rfl rfl ?_; clear H; intro a H; refine wl_nil ?_; refine loop_end ((k2 + 1, G)) (by exact (H).sub ⟨rfl, rfl, rfl, trivial⟩) ?_ ?_
    · (try dsimp only); exact ⟨by omega, fun b o h => hGm16 b o (hgm2 b o h)⟩
    first | omega | (dsimp only; omega)
  intro h94
  try have p94 := of_decide_eq_false h94
  refine c_exit ?_; refine hK15 _ _ ?_; clear hK15; refine c_seq (fun _ hK21 => ?_); refine c_region ?_; refine s_assign H wn rfl rfl ?_; clear H; intro a H; refine wl_nil ?_; refine hK21 _ _ ?_; clear hK21; refine c_ret ?_; refine (leave1 H Tryd.results7 (.cons (rv_tmp H rfl) .nil) ?_).1; exact H.hp.ret rfl
theorem btokens_true (G : GH) (w0 : World) (hG : Hold G w0) (hT : TabsG G) (s t : ByteArray) (hs : s.size ≤ 9223372036854775807) (ht : t.size ≤ 9223372036854775807) :
    Calls Tryd.prog 7 #[.string s, .string t] w0 (Ret w0 G fun u G' => u = .bool true) := by
  by_cases hb : validS (preS s) = true ∧ validS (preS t) = true
  · exact tokens_ok G w0 hG hT s t hb hs ht
  exact tokens_bad G w0 hG s t hb hs ht
end Go.Proofs.YtpmcdlhhfbobfaaDoor
