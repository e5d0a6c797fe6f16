/-
  sort.Search; package grapheme: the class of a code point.
-/
import Derived.Test.YtpmcdlhhfbobfaaDoorSpn
import Derived.Test.YtpmcdlhhfbobfaaDoorUt
namespace Go.Proofs.YtpmcdlhhfbobfaaDoor
open Go.RowKit
theorem un93cls : Tryd.prog.underlying 93 = some (.int .u64) := by kernel_rfl
theorem un3cls : Tryd.prog.underlying 3 = some (.int .i64) := by kernel_rfl
theorem ty128cls : Ty Tryd.prog 128 1 24 [.slice none 0 0] false := ⟨by kernel_rfl, by kernel_rfl⟩
theorem ty3cls : Ty Tryd.prog 3 1 8 [.int .i64 0] false := ⟨by kernel_rfl, by kernel_rfl⟩
theorem un128cls : Tryd.prog.underlying 128 = some (.slice 138) := by kernel_rfl
theorem ty138cls : Ty Tryd.prog 138 3 24 [.int .i64 0, .int .i64 0, .int .i64 0] true := ⟨by kernel_rfl, by kernel_rfl⟩
theorem fd138_1cls : Fld Tryd.prog 138 1 1 := ⟨by kernel_rfl⟩
theorem en69cls : ∀ args w, (callFunc 69 args).run Tryd.prog w = .ok (.enter 69 args) w := enters Tryd.func69 rfl (by kernel_rfl)
theorem fd138_0cls : Fld Tryd.prog 138 0 0 := ⟨by kernel_rfl⟩
theorem fd138_2cls : Fld Tryd.prog 138 2 2 := ⟨by kernel_rfl⟩
theorem en70cls : ∀ args w, (callFunc 70 args).run Tryd.prog w = .ok (.enter 70 args) w := enters Tryd.func70 rfl (by kernel_rfl)
theorem uwrap {z : Int} (h1 : 0 ≤ z) (h2 : z < 18446744073709551616) : IntKind.u64.wrap z = z := by
  simp only [IntKind.wrap, IntKind.bits, IntKind.signed, Bool.false_and, Bool.false_eq_true, if_false]
  omega
theorem shr_one (n : Nat) : ((n : Nat) : Int).fdiv (2 ^ 1) = ((n / 2 : Nat) : Int) := by
  rw [Int.fdiv_eq_ediv_of_nonneg _ (by decide)]; omega
/-- The least index from i on, below j, at which a test holds (halving). -/
def bs (p : Nat → Bool) : Nat → Nat → Nat → Nat
  | 0, i, _ => i
  | f + 1, i, j => if i < j then (if p ((i + j) / 2) then bs p f i ((i + j) / 2) else bs p f ((i + j) / 2 + 1) j) else i
theorem bs_step {p : Nat → Bool} {f i j : Nat} (hf : j - i ≤ f) (h : i < j) : bs p f i j = if p ((i + j) / 2) then bs p (f - 1) i ((i + j) / 2) else bs p (f - 1) ((i + j) / 2 + 1) j := by
  match f, hf with
  | 0, hf => omega
  | f + 1, _ => rw [bs, if_pos h]; rfl
theorem bs_end {p : Nat → Bool} {f i j : Nat} (h : ¬ i < j) : bs p f i j = i := by
  match f with
  | 0 => rfl
  | f + 1 => rw [bs, if_neg h]
theorem bs_le {p : Nat → Bool} : ∀ (f i j : Nat), i ≤ j → bs p f i j ≤ j
  | 0, i, j, h => h
  | f + 1, i, j, h => by
    rw [bs]
    split
    · split
      · exact Nat.le_trans (bs_le f i _ (by omega)) (by omega)
      exact bs_le f _ j (by omega)
    exact h
theorem search_spec (G : GH) (w0 : World) (hG : Hold G w0) (n : Nat) (p : Nat → Bool) (fv : Value) (hn : n ≤ 4294967296) (hf : ∀ (i : Nat) (G1 : GH) (w1 : World), i < n → (∀ b o, G b = some o → G1 b = some o) → Hold G1 w1 → CallV Tryd.prog fv [vi i] w1 (Ret w1 G1 fun u G' => u = .bool (p i))) :
    Calls Tryd.prog 69 #[vi n, fv] w0 (Ret w0 G fun u G' => u = vi (bs p n 0 n)) := by
  refine enter (N := 26) (T := [(0, _), (1, _)]) (F := fun k => k < w0.heap.size) (L := []) Tryd.func69 rfl Tryd.ntmps69 rfl rfl hG (fun _ h => h) (fun _ h => by cases h) (fun _ h => by cases h) (fun _ h => by cases h) List.Pairwise.nil ?_
  intro a H
  refine c_seq (fun _ hK1 => ?_)
  refine c_region ?_
  refine s_assign H wn rfl rfl ?_; clear H; intro a H
  refine wl_nil ?_
  refine hK1 _ _ ?_; clear hK1
  refine c_seq (fun _ hK2 => ?_)
  refine c_region ?_
  refine s_move H wn rfl rfl ?_; clear H; intro a H
  refine s_assign H wn rfl rfl ?_; clear H; intro a H
  refine s_assign H wn rfl rfl ?_; clear H; intro a H
  refine wl_nil ?_
  refine hK2 _ _ ?_; clear hK2
  refine c_seq (fun _ hK3 => ?_)
  refine c_block ?_
  skip
  refine c_loopS (ι := Nat × Nat × Nat × GH) (Tc := [(1, _)]) (Lc := []) (fun (gh : Nat × Nat × Nat × GH) => [(5, vi gh.1), (6, vi gh.2.1)]) (fun (gh : Nat × Nat × Nat × GH) => []) (fun (gh : Nat × Nat × Nat × GH) => gh.2.2.2) (fun (gh : Nat × Nat × Nat × GH) => gh.1 ≤ gh.2.1 ∧ gh.2.1 ≤ n ∧ gh.2.1 - gh.1 ≤ gh.2.2.1 ∧ bs p gh.2.2.1 gh.1 gh.2.1 = bs p n 0 n ∧ (∀ b o, G b = some o → gh.2.2.2 b = some o)) (fun (gh : Nat × Nat × Nat × GH) => gh.2.1 - gh.1) ((0, n, n, G)) (by exact (H).sub ⟨rfl, rfl, rfl, trivial⟩) ?_ ?_
  · exact ⟨Nat.zero_le _, Nat.le_refl _, Nat.sub_le _ _, rfl, fun _ _ h => h⟩
  clear H; intro gh a w hI H
  obtain ⟨i, j, f, g⟩ := gh; dsimp only at hI H
  obtain ⟨hij, hj, hf1, heq, hgm⟩ := hI
  dsimp only [List.cons_append, List.nil_append, List.append_nil] at H
  refine c_seq (fun _ hK4 => ?_)
  refine c_seq (fun _ hK5 => ?_)
  refine c_region ?_
  refine s_move H wn rfl rfl ?_; clear H; intro a H
  refine s_move H wn rfl rfl ?_; clear H; intro a H
  refine s_cmp H wn rfl rfl rfl rfl ?_; clear H; intro a H
  refine wl_nil ?_
  refine hK5 _ _ ?_; clear hK5
  refine c_cond H rfl ?_ ?_
  · intro h11
    try have p11 := of_decide_eq_true h11
    have hlt : i < j := by omega
    rw [bs_step hf1 hlt] at heq
    refine c_skip ?_
    refine hK4 _ _ ?_; clear hK4
    refine c_block ?_
    refine c_seq (fun _ hK6 => ?_)
    refine c_region ?_
    refine s_move H wn rfl rfl ?_; clear H; intro a H
    refine s_move H wn rfl rfl ?_; clear H; intro a H
    refine s_add _ H wn rfl rfl rfl (by omega) (by omega) rfl ?_; clear H; intro a H
    rw [show ((i : Int) + (j : Int)) = ((i + j : Nat) : Int) by push_cast; rfl] at H
    refine s_conv ((i + j : Nat) : Int) un93cls un3cls H wn rfl (uwrap (by omega) (by omega)) rfl ?_; clear H; intro a H
    refine s_shr _ H wn rfl rfl rfl (by decide) rfl ?_; clear H; intro a H
    rw [shr_one] at H
    refine s_conv (((i + j) / 2 : Nat) : Int) un3cls un93cls H wn rfl (i64_wrap (by omega) (by omega)) rfl ?_; clear H; intro a H
    refine s_assign H wn rfl rfl ?_; clear H; intro a H
    refine wl_nil ?_
    refine hK6 _ _ ?_; clear hK6
    refine c_seq (fun _ hK7 => ?_)
    refine c_region ?_
    refine s_move H wn rfl rfl ?_; clear H; intro a H
    refine s_move H wn rfl rfl ?_; clear H; intro a H
    refine s_callv0 H wn rfl rfl (hf ((i + j) / 2) _ _ (by omega) hgm H.hp.ro) rfl ?_; clear H
    rintro v20 G20 a w rfl hm20 H
    refine s_not H wn rfl rfl ?_; clear H; intro a H
    refine wl_nil ?_
    refine hK7 _ _ ?_; clear hK7
    refine c_cond H rfl ?_ ?_
    · intro h21
      try have p21 := of_decide_eq_true h21
      rw [if_neg (by simpa using h21)] at heq
      refine c_region ?_
      refine s_move H wn rfl rfl ?_; clear H; intro a H
      refine s_add _ H wn rfl rfl rfl (by omega) (by omega) rfl ?_; clear H; intro a H
      refine s_assign H wn rfl rfl ?_; clear H; intro a H
      refine wl_nil ?_
      refine loop_end (((i + j) / 2 + 1, j, f - 1, G20)) (by exact (H).sub ⟨rfl, rfl, rfl, trivial⟩) ?_ ?_
      · try dsimp only
        exact ⟨by omega, hj, by omega, heq, fun b o h => hm20 b o (hgm b o h)⟩
      first | omega | (dsimp only; omega)
    intro h21
    try have p21 := of_decide_eq_false h21
    rw [if_pos (by simpa using h21)] at heq
    refine c_region ?_
    refine s_move H wn rfl rfl ?_; clear H; intro a H
    refine s_assign H wn rfl rfl ?_; clear H; intro a H
    refine wl_nil ?_
    refine loop_end ((i, (i + j) / 2, f - 1, G20)) (by exact (H).sub ⟨rfl, rfl, rfl, trivial⟩) ?_ ?_
    · try dsimp only
      exact ⟨by omega, by omega, by omega, heq, fun b o h => hm20 b o (hgm b o h)⟩
    first | omega | (dsimp only; omega)
  intro h11
  try have p11 := of_decide_eq_false h11
  refine c_exit ?_
  refine hK3 _ _ ?_; clear hK3
  refine c_seq (fun _ hK8 => ?_)
  refine c_region ?_
  refine s_move H wn rfl rfl ?_; clear H; intro a H
  refine s_assign H wn rfl rfl ?_; clear H; intro a H
  refine wl_nil ?_
  refine hK8 _ _ ?_; clear hK8
  refine c_ret ?_
  refine (leave1 H Tryd.results69 (.cons (rv_tmp H rfl) .nil) ?_).1
  exact H.hp.ret (by rw [← heq, bs_end (by omega)])
/-- Whether a span ends at a point or behind it. -/
def hiS (l : List SpanD) (p : Int) (i : Nat) : Bool := match l[i]? with | some x => decide (x.high ≥ p) | none => false
/-- The class of a code point. -/
def clsOf (l : List SpanD) (p : Int) : Int :=
  if 44032 ≤ p ∧ p ≤ 55203 then (if (p - 44032).tmod 28 = 0 then 11 else 12)
  else match l[bs (hiS l p) l.length 0 l.length]? with | some x => if x.low ≤ p then x.cls else 0 | none => 0
theorem hi_spec {G : GH} {bl bp : Nat} {l : List SpanD} {A : Option Addr} {c : Nat} {p : Int} (hb : gcell G bl 0 = some (.slice A l.length c)) (hp : gcell G bp 0 = some (vi p)) (hv : RepV G (.sl 3 (l.map SpanD.dat)) (.slice A l.length c)) (i : Nat) (G1 : GH) (w0 : World) (hi : i < l.length) (hm : ∀ b o, G b = some o → G1 b = some o) (hG : Hold G1 w0) :
    CallV Tryd.prog (.func (.func 70) #[] #[.pointer (some ⟨bl, 0, none⟩), .pointer (some ⟨bp, 0, none⟩)]) [vi i] w0 (Ret w0 G1 fun u G' => u = .bool (hiS l p i)) := by
  refine callV_func (caps := [.pointer (some ⟨bl, 0, none⟩), .pointer (some ⟨bp, 0, none⟩)]) en70cls ?_
  obtain ⟨b, o, rfl, hrow⟩ := span_at hv hi
  have h1 := gcell_mono hm hb
  have h2 := gcell_mono hm hp
  have h3 := gcell_mono hm (hrow 1 _ rfl)
  have e : hiS l p i = decide (l[i].high ≥ p) := by simp only [hiS, List.getElem?_eq_getElem hi]
  rw [e]
  refine enter (N := 12) (T := [(0, _), (1, _), (2, _)]) (F := fun k => k < w0.heap.size) (L := []) Tryd.func70 rfl Tryd.ntmps70 rfl rfl hG (fun _ h => h) (fun _ h => by cases h) (fun _ h => by cases h) (fun _ h => by cases h) List.Pairwise.nil ?_
  intro a H
  refine c_seq (fun _ hK1 => ?_)
  refine c_region ?_
  refine s_assign H wn rfl rfl ?_; clear H; intro a H
  refine wl_nil ?_
  refine hK1 _ _ ?_; clear hK1
  refine c_seq (fun _ hK2 => ?_)
  have H := H.sub (T' := [(0, _), (1, _), (2, _)]) ⟨rfl, rfl, rfl, trivial⟩
  have hprm1 : ∀ (ix_ : Nat) (v : Value) (G G' : GH), (∀ k o, G k = some o → G' k = some o) → (fun (ix_ : Nat) (v : Value) (G : GH) => match ix_ with | 0 => v = .slice (some ⟨b, o, none⟩) l.length c | 1 => v = vi i | 2 => v = .pointer (some ⟨b, o + i * 3, none⟩) | 3 => v = .pointer (some ⟨b, o + i * 3 + 1, none⟩) | 4 => v = vi l[i].high | 5 => v = vi p | 6 => v = .bool (decide (l[i].high ≥ p)) | 7 => v = .bool (decide (l[i].high ≥ p)) | _ => True) ix_ v G → (fun (ix_ : Nat) (v : Value) (G : GH) => match ix_ with | 0 => v = .slice (some ⟨b, o, none⟩) l.length c | 1 => v = vi i | 2 => v = .pointer (some ⟨b, o + i * 3, none⟩) | 3 => v = .pointer (some ⟨b, o + i * 3 + 1, none⟩) | 4 => v = vi l[i].high | 5 => v = vi p | 6 => v = .bool (decide (l[i].high ≥ p)) | 7 => v = .bool (decide (l[i].high ≥ p)) | _ => True) ix_ v G' := by
    intro ix_ v G G' hm h
    match ix_, h with
    | 0, h => exact h
    | 1, h => exact h
    | 2, h => exact h
    | 3, h => exact h
    | 4, h => exact h
    | 5, h => exact h
    | 6, h => exact h
    | 7, h => exact h
    | _ + 8, h => exact trivial
  refine c_drawI (hmxb) [[], [], [0, 1], [0, 1, 2], [0, 1, 2, 3], [], [0, 1, 2, 3, 4, 5], [0, 1, 2, 3, 4, 5, 6]] [] (by kernel_rfl) (by kernel_rfl) (fun (ix_ : Nat) (v : Value) (G : GH) => match ix_ with | 0 => v = .slice (some ⟨b, o, none⟩) l.length c | 1 => v = vi i | 2 => v = .pointer (some ⟨b, o + i * 3, none⟩) | 3 => v = .pointer (some ⟨b, o + i * 3 + 1, none⟩) | 4 => v = vi l[i].high | 5 => v = vi p | 6 => v = .bool (decide (l[i].high ≥ p)) | 7 => v = .bool (decide (l[i].high ≥ p)) | _ => True) hprm1 H ?_ ?_
  · clear H; refine (allI_cons ?_ (allI_cons ?_ (allI_cons ?_ (allI_cons ?_ (allI_cons ?_ (allI_cons ?_ (allI_cons ?_ (allI_cons ?_ allI_nil))))))))
    · intro Sd_ a w G1 _ hSi hc hG HT hv; have H := HT; clear hSi
      have Hb := H.full; have H := Hb; clear hc
      refine s_load ty128cls H wn rfl (H.hp.gcell (gcell_mono hG h1)) rfl ?_; clear H; intro a H
      refine wl_nil ⟨rfl, ?_⟩
      exact draw_val (by kernel_rfl) hprm1 rfl rfl HT Hb hG hv (fun _ _ h => h) (rfl) H
    · intro Sd_ a w G1 _ hSi hc hG HT hv; have H := HT; clear hSi
      have Hb := H.full; have H := Hb; clear hc
      refine s_move H wn rfl rfl ?_; clear H; intro a H
      refine wl_nil ⟨rfl, ?_⟩
      exact draw_val (by kernel_rfl) hprm1 rfl rfl HT Hb hG hv (fun _ _ h => h) (rfl) H
    · intro Sd_ a w G1 _ hSi hc hG HT hv; have H := HT; clear hSi
      obtain ⟨u5, hu5, hp5⟩ := hv 0 5 (hc 0 (by decide)) rfl
      obtain rfl : u5 = .slice (some ⟨b, o, none⟩) l.length c := hp5
      have H := H.addS hu5
      obtain ⟨u6, hu6, hp6⟩ := hv 1 6 (hc 1 (by decide)) rfl
      obtain rfl : u6 = vi i := hp6
      have H := H.addS hu6
      have Hb := H.full; have H := Hb; clear hc
      refine s_index un128cls ty138cls _ H wn rfl rfl rfl (by first | assumption | omega) rfl ?_; clear H; intro a H
      refine wl_nil ⟨rfl, ?_⟩
      exact draw_val (by kernel_rfl) hprm1 rfl rfl HT Hb hG hv (fun _ _ h => h) (rfl) H
    · intro Sd_ a w G1 _ hSi hc hG HT hv; have H := HT; clear hSi
      obtain ⟨u7, hu7, hp7⟩ := hv 2 7 (hc 2 (by decide)) rfl
      obtain rfl : u7 = .pointer (some ⟨b, o + i * 3, none⟩) := hp7
      have H := H.addS hu7
      have Hb := H.full; have H := Hb; clear hc
      refine s_field fd138_1cls H wn rfl rfl ?_; clear H; intro a H
      refine wl_nil ⟨rfl, ?_⟩
      exact draw_val (by kernel_rfl) hprm1 rfl rfl HT Hb hG hv (fun _ _ h => h) (rfl) H
    · intro Sd_ a w G1 _ hSi hc hG HT hv; have H := HT; clear hSi
      obtain ⟨u8, hu8, hp8⟩ := hv 3 8 (hc 3 (by decide)) rfl
      obtain rfl : u8 = .pointer (some ⟨b, o + i * 3 + 1, none⟩) := hp8
      have H := H.addS hu8
      have Hb := H.full; have H := Hb; clear hc
      refine s_load ty3cls H wn rfl (H.hp.gcell (gcell_mono hG h3)) rfl ?_; clear H; intro a H
      refine wl_nil ⟨rfl, ?_⟩
      exact draw_val (by kernel_rfl) hprm1 rfl rfl HT Hb hG hv (fun _ _ h => h) (rfl) H
    · intro Sd_ a w G1 _ hSi hc hG HT hv; have H := HT; clear hSi
      have Hb := H.full; have H := Hb; clear hc
      refine s_load ty3cls H wn rfl (H.hp.gcell (gcell_mono hG h2)) rfl ?_; clear H; intro a H
      refine wl_nil ⟨rfl, ?_⟩
      exact draw_val (by kernel_rfl) hprm1 rfl rfl HT Hb hG hv (fun _ _ h => h) (rfl) H
    · intro Sd_ a w G1 _ hSi hc hG HT hv; have H := HT; clear hSi
      obtain ⟨u9, hu9, hp9⟩ := hv 4 9 (hc 4 (by decide)) rfl
      obtain rfl : u9 = vi l[i].high := hp9
      have H := H.addS hu9
      obtain ⟨u10, hu10, hp10⟩ := hv 5 10 (hc 5 (by decide)) rfl
      obtain rfl : u10 = vi p := hp10
      have H := H.addS hu10
      have Hb := H.full; have H := Hb; clear hc
      refine s_cmp H wn rfl rfl rfl rfl ?_; clear H; intro a H
      refine wl_nil ⟨rfl, ?_⟩
      exact draw_val (by kernel_rfl) hprm1 rfl rfl HT Hb hG hv (fun _ _ h => h) (rfl) H
    intro Sd_ a w G1 _ hSi hc hG HT hv; have H := HT; clear hSi
    obtain ⟨u11, hu11, hp11⟩ := hv 6 11 (hc 6 (by decide)) rfl
    obtain rfl : u11 = .bool (decide (l[i].high ≥ p)) := hp11
    have H := H.addS hu11
    have Hb := H.full; have H := Hb; clear hc
    refine s_assign H wn rfl rfl ?_; clear H; intro a H
    refine wl_nil ⟨rfl, ?_⟩
    exact draw_val (by kernel_rfl) hprm1 rfl rfl HT Hb hG hv (fun _ _ h => h) (rfl) H
  clear H; intro a w G hGm1 H hv
  obtain ⟨u4, hu4, hp4⟩ := hv 7 4 (by decide) rfl
  obtain rfl : u4 = .bool (decide (l[i].high ≥ p)) := hp4
  have H := H.addS hu4
  clear hv
  refine wl_nil ⟨rfl, ?_⟩
  refine hK2 _ _ ?_; clear hK2
  refine c_ret ?_
  refine (leave1 H Tryd.results70 (.cons (rv_tmp H rfl) .nil) ?_).1
  exact H.hp.ret rfl
theorem classOf_spec (G : GH) (w0 : World) (hG : Hold G w0) (l : List SpanD) (p : Int) (v : Value) (hv : RepV G (.sl 3 (l.map SpanD.dat)) v) (hl : l.length ≤ 4294967296) (hp : 0 ≤ p ∧ p ≤ 4294967296) :
    Calls Tryd.prog 65 #[v, vi p] w0 (Ret w0 G fun u G' => u = vi (clsOf l p)) := by
  obtain ⟨A, c, rfl, hc1, hc2, -⟩ := hv.slice
  rw [List.length_map] at *
  refine enter (N := 38) (T := [(0, _), (1, _)]) (F := fun k => k < w0.heap.size) (L := []) Tryd.func65 rfl Tryd.ntmps65 rfl rfl hG (fun _ h => h) (fun _ h => by cases h) (fun _ h => by cases h) (fun _ h => by cases h) List.Pairwise.nil ?_
  intro a H
  refine c_seq (fun _ hK1 => ?_)
  refine c_region ?_
  refine s_box (cs := [_]) H wn rfl rfl rfl ?_; clear H; intro b2 a w hb2 H
  refine s_box (cs := [_]) H wn rfl rfl rfl ?_; clear H; intro b3 a w hb3 H
  refine s_assign H wn rfl rfl ?_; clear H; intro a H
  refine wl_nil ?_
  refine hK1 _ _ ?_; clear hK1
  refine c_seq (fun _ hK2 => ?_)
  refine c_seq (fun _ hK3 => ?_)
  refine c_region ?_
  refine s_load ty3cls H wn rfl (H.hp.ocell 0 rfl rfl) rfl ?_; clear H; intro a H
  refine s_cmp H wn rfl rfl rfl rfl ?_; clear H; intro a H
  refine s_move H wn rfl rfl ?_; clear H; intro a H
  refine s_split H 8 rfl ?_ ?_
  · intro h8
    try have p8 := of_decide_eq_true h8
    refine s_load ty3cls H (wg H rfl rfl h8) rfl (H.hp.ocell 0 rfl rfl) rfl ?_; clear H; intro a H
    refine s_cmp H (wg H rfl rfl h8) rfl rfl rfl rfl ?_; clear H; intro a H
    refine s_pick_t H wn rfl h8 rfl rfl ?_; clear H; intro a H
    refine wl_nil ?_
    refine hK3 _ _ ?_; clear hK3
    refine c_cond H rfl ?_ ?_
    · intro h11
      try have p11 := of_decide_eq_true h11
      refine c_seq (fun _ hK4 => ?_)
      refine c_seq (fun _ hK5 => ?_)
      refine c_region ?_
      refine s_load ty3cls H wn rfl (H.hp.ocell 0 rfl rfl) rfl ?_; clear H; intro a H
      refine s_sub _ H wn rfl rfl rfl (by omega) (by omega) rfl ?_; clear H; intro a H
      refine s_rem ((p - 44032).tmod 28) H wn rfl rfl (by decide) rfl rfl ?_; clear H; intro a H
      refine s_cmp H wn rfl rfl rfl rfl ?_; clear H; intro a H
      refine wl_nil ?_
      refine hK5 _ _ ?_; clear hK5
      refine c_cond H rfl ?_ ?_
      · intro h15
        try have p15 := of_decide_eq_true h15
        refine c_seq (fun _ hK6 => ?_)
        refine c_region ?_
        refine s_assign H wn rfl rfl ?_; clear H; intro a H
        refine wl_nil ?_
        refine hK6 _ _ ?_; clear hK6
        refine c_ret ?_
        refine (leave1 H Tryd.results65 (.cons (rv_tmp H rfl) .nil) ?_).1
        exact H.hp.ret (by rw [clsOf, if_pos ⟨by omega, by omega⟩, if_pos p15])
      intro h15
      try have p15 := of_decide_eq_false h15
      refine c_skip ?_
      refine hK4 _ _ ?_; clear hK4
      refine c_seq (fun _ hK7 => ?_)
      refine c_region ?_
      refine s_assign H wn rfl rfl ?_; clear H; intro a H
      refine wl_nil ?_
      refine hK7 _ _ ?_; clear hK7
      refine c_ret ?_
      refine (leave1 H Tryd.results65 (.cons (rv_tmp H rfl) .nil) ?_).1
      exact H.hp.ret (by rw [clsOf, if_pos ⟨by omega, by omega⟩, if_neg p15])
    intro h11
    try have p11 := of_decide_eq_false h11
    refine c_skip ?_
    refine hK2 _ _ ?_; clear hK2
    refine c_seq (fun _ hK8 => ?_)
    obtain ⟨Ga, hma, hb3', H⟩ := H.giveBox
    obtain ⟨Gb, hmb, hb2', H⟩ := H.giveBox
    have hv2 := (hv.mono hma).mono hmb
    have q2 : gcell Gb b2 0 = some (.slice A l.length c) := by unfold gcell; rw [hb2']; rfl
    have q3 : gcell Gb b3 0 = some (vi p) := by unfold gcell; rw [hmb _ _ hb3']; rfl
    refine c_region ?_
    refine s_load ty128cls H wn rfl (H.hp.gcell q2) rfl ?_; clear H; intro a H
    refine s_len un128cls H wn rfl rfl ?_; clear H; intro a H
    refine s_makeFunc H wn rfl rfl ?_; clear H; intro a H
    refine s_call en69cls H wn rfl (search_spec _ _ H.hp.ro l.length (hiS l p) _ hl (fun i G1 w1 hi hm hG1 => hi_spec q2 q3 hv2 i G1 w1 hi hm hG1)) rfl ?_; clear H
    rintro v19 G19 a w rfl hm19 H
    have q2 := gcell_mono hm19 q2
    have q3 := gcell_mono hm19 q3
    have hv2 := hv2.mono hm19
    obtain ⟨k, hk⟩ : ∃ k, k = bs (hiS l p) l.length 0 l.length := ⟨_, rfl⟩
    rw [← hk] at H
    refine s_assign H wn rfl rfl ?_; clear H; intro a H
    refine wl_nil ?_
    refine hK8 _ _ ?_; clear hK8
    refine c_seq (fun _ hK9 => ?_)
    refine c_seq (fun _ hK10 => ?_)
    obtain ⟨lo, cl, sb, so, hx⟩ : ∃ lo cl sb so, k < l.length → A = some ⟨sb, so, none⟩ ∧ l[k]?.map SpanD.low = some lo ∧ l[k]?.map SpanD.cls = some cl ∧ gcell G19 sb (so + k * 3 + 0) = some (vi lo) ∧ gcell G19 sb (so + k * 3 + 2) = some (vi cl) := by
      by_cases h : k < l.length
      · obtain ⟨sb, so, h1, h2⟩ := span_at hv2 h
        exact ⟨_, _, sb, so, fun _ => ⟨h1, by rw [List.getElem?_eq_getElem h]; rfl, by rw [List.getElem?_eq_getElem h]; rfl, h2 0 _ rfl, h2 2 _ rfl⟩⟩
      exact ⟨0, 0, 0, 0, fun h' => absurd h' h⟩
    by_cases c0 : (k : Int) < (l.length : Int)
    · skip
      by_cases c1 : lo ≤ p
      · skip
        have hprm6 : ∀ (ix_ : Nat) (v : Value) (G G' : GH), (∀ k o, G k = some o → G' k = some o) → (fun (ix_ : Nat) (v : Value) (G : GH) => match ix_ with | 0 => v = vi k | 1 => v = .slice A l.length c | 2 => v = vi l.length | 3 => v = .bool (decide ((k : Int) < (l.length : Int))) | 4 => v = .bool (decide ((k : Int) < (l.length : Int))) | 5 => v = .slice A l.length c | 6 => v = vi k | 7 => v = .pointer (some ⟨sb, so + k * 3, none⟩) | 8 => v = .pointer (some ⟨sb, so + k * 3 + 0, none⟩) | 9 => v = vi lo | 10 => v = vi p | 11 => v = .bool (decide (lo ≤ p)) | 12 => v = .bool (decide (lo ≤ p)) | _ => True) ix_ v G → (fun (ix_ : Nat) (v : Value) (G : GH) => match ix_ with | 0 => v = vi k | 1 => v = .slice A l.length c | 2 => v = vi l.length | 3 => v = .bool (decide ((k : Int) < (l.length : Int))) | 4 => v = .bool (decide ((k : Int) < (l.length : Int))) | 5 => v = .slice A l.length c | 6 => v = vi k | 7 => v = .pointer (some ⟨sb, so + k * 3, none⟩) | 8 => v = .pointer (some ⟨sb, so + k * 3 + 0, none⟩) | 9 => v = vi lo | 10 => v = vi p | 11 => v = .bool (decide (lo ≤ p)) | 12 => v = .bool (decide (lo ≤ p)) | _ => True) ix_ v G' := by
          intro ix_ v G G' hm h
          match ix_, h with
          | 0, h => exact h
          | 1, h => exact h
          | 2, h => exact h
          | 3, h => exact h
          | 4, h => exact h
          | 5, h => exact h
          | 6, h => exact h
          | 7, h => exact h
          | 8, h => exact h
          | 9, h => exact h
          | 10, h => exact h
          | 11, h => exact h
          | 12, h => exact h
          | _ + 13, h => exact trivial
        refine c_drawI (hmxb) [[], [], [1], [0, 1, 2], [0, 1, 2, 3], [0, 1, 2, 3, 4], [0, 1, 2, 3, 4], [0, 1, 2, 3, 4, 5, 6], [0, 1, 2, 3, 4, 5, 6, 7], [0, 1, 2, 3, 4, 5, 6, 7, 8], [0, 1, 2, 3, 4], [0, 1, 2, 3, 4, 5, 6, 7, 8, 9, 10], [0, 1, 2, 3, 4, 5, 6, 7, 8, 9, 10, 11]] [] (by kernel_rfl) (by kernel_rfl) (fun (ix_ : Nat) (v : Value) (G : GH) => match ix_ with | 0 => v = vi k | 1 => v = .slice A l.length c | 2 => v = vi l.length | 3 => v = .bool (decide ((k : Int) < (l.length : Int))) | 4 => v = .bool (decide ((k : Int) < (l.length : Int))) | 5 => v = .slice A l.length c | 6 => v = vi k | 7 => v = .pointer (some ⟨sb, so + k * 3, none⟩) | 8 => v = .pointer (some ⟨sb, so + k * 3 + 0, none⟩) | 9 => v = vi lo | 10 => v = vi p | 11 => v = .bool (decide (lo ≤ p)) | 12 => v = .bool (decide (lo ≤ p)) | _ => True) hprm6 H ?_ ?_
        · clear H; refine (allI_cons ?_ (allI_cons ?_ (allI_cons ?_ (allI_cons ?_ (allI_cons ?_ (allI_cons ?_ (allI_cons ?_ (allI_cons ?_ (allI_cons ?_ (allI_cons ?_ (allI_cons ?_ (allI_cons ?_ (allI_cons ?_ allI_nil)))))))))))))
          · intro Sd_ a w G1 _ hSi hc hG HT hv; have H := HT; clear hSi
            have Hb := H.full; have H := Hb; clear hc
            refine s_move H wn rfl rfl ?_; clear H; intro a H
            refine wl_nil ⟨rfl, ?_⟩
            exact draw_val (by kernel_rfl) hprm6 rfl rfl HT Hb hG hv (fun _ _ h => h) (rfl) H
          · intro Sd_ a w G1 _ hSi hc hG HT hv; have H := HT; clear hSi
            have Hb := H.full; have H := Hb; clear hc
            refine s_load ty128cls H wn rfl (H.hp.gcell (gcell_mono hG q2)) rfl ?_; clear H; intro a H
            refine wl_nil ⟨rfl, ?_⟩
            exact draw_val (by kernel_rfl) hprm6 rfl rfl HT Hb hG hv (fun _ _ h => h) (rfl) H
          · intro Sd_ a w G1 _ hSi hc hG HT hv; have H := HT; clear hSi
            obtain ⟨u21, hu21, hp21⟩ := hv 1 21 (hc 1 (by decide)) rfl
            obtain rfl : u21 = .slice A l.length c := hp21
            have H := H.addS hu21
            have Hb := H.full; have H := Hb; clear hc
            refine s_len un128cls H wn rfl rfl ?_; clear H; intro a H
            refine wl_nil ⟨rfl, ?_⟩
            exact draw_val (by kernel_rfl) hprm6 rfl rfl HT Hb hG hv (fun _ _ h => h) (rfl) H
          · intro Sd_ a w G1 _ hSi hc hG HT hv; have H := HT; clear hSi
            obtain ⟨u20, hu20, hp20⟩ := hv 0 20 (hc 0 (by decide)) rfl
            obtain rfl : u20 = vi k := hp20
            have H := H.addS hu20
            obtain ⟨u22, hu22, hp22⟩ := hv 2 22 (hc 2 (by decide)) rfl
            obtain rfl : u22 = vi l.length := hp22
            have H := H.addS hu22
            have Hb := H.full; have H := Hb; clear hc
            refine s_cmp H wn rfl rfl rfl rfl ?_; clear H; intro a H
            refine wl_nil ⟨rfl, ?_⟩
            exact draw_val (by kernel_rfl) hprm6 rfl rfl HT Hb hG hv (fun _ _ h => h) (rfl) H
          · intro Sd_ a w G1 _ hSi hc hG HT hv; have H := HT; clear hSi
            obtain ⟨u23, hu23, hp23⟩ := hv 3 23 (hc 3 (by decide)) rfl
            obtain rfl : u23 = .bool (decide ((k : Int) < (l.length : Int))) := hp23
            have H := H.addS hu23
            have Hb := H.full; have H := Hb; clear hc
            refine s_move H wn rfl rfl ?_; clear H; intro a H
            refine wl_nil ⟨rfl, ?_⟩
            exact draw_val (by kernel_rfl) hprm6 rfl rfl HT Hb hG hv (fun _ _ h => h) (rfl) H
          · intro Sd_ a w G1 _ hSi hc hG HT hv; have H := HT; clear hSi
            obtain ⟨u24, hu24, hp24⟩ := hv 4 24 (hc 4 (by decide)) rfl
            obtain rfl : u24 = .bool (decide ((k : Int) < (l.length : Int))) := hp24
            have H := H.addS hu24
            have Hb := H.full; have H := Hb; clear hc
            refine s_load ty128cls H (wg H rfl rfl (decide_eq_true c0)) rfl (H.hp.gcell (gcell_mono hG q2)) rfl ?_; clear H; intro a H
            refine wl_nil ⟨rfl, ?_⟩
            exact draw_val (by kernel_rfl) hprm6 rfl rfl HT Hb hG hv (fun _ _ h => h) (rfl) H
          · intro Sd_ a w G1 _ hSi hc hG HT hv; have H := HT; clear hSi
            obtain ⟨u24, hu24, hp24⟩ := hv 4 24 (hc 4 (by decide)) rfl
            obtain rfl : u24 = .bool (decide ((k : Int) < (l.length : Int))) := hp24
            have H := H.addS hu24
            have Hb := H.full; have H := Hb; clear hc
            refine s_move H (wg H rfl rfl (decide_eq_true c0)) rfl rfl ?_; clear H; intro a H
            refine wl_nil ⟨rfl, ?_⟩
            exact draw_val (by kernel_rfl) hprm6 rfl rfl HT Hb hG hv (fun _ _ h => h) (rfl) H
          · intro Sd_ a w G1 _ hSi hc hG HT hv; have H := HT; clear hSi
            obtain ⟨u25, hu25, hp25⟩ := hv 5 25 (hc 5 (by decide)) rfl
            obtain rfl : u25 = .slice A l.length c := hp25
            have H := H.addS hu25
            obtain ⟨u26, hu26, hp26⟩ := hv 6 26 (hc 6 (by decide)) rfl
            obtain rfl : u26 = vi k := hp26
            have H := H.addS hu26
            obtain ⟨u24, hu24, hp24⟩ := hv 4 24 (hc 4 (by decide)) rfl
            obtain rfl : u24 = .bool (decide ((k : Int) < (l.length : Int))) := hp24
            have H := H.addS hu24
            have Hb := H.full; have H := Hb; clear hc
            obtain ⟨rfl, hx1, hx2, hx3, hx4⟩ := hx (by omega)
            refine s_index un128cls ty138cls k H (wg H rfl rfl (decide_eq_true c0)) rfl rfl rfl (by omega) rfl ?_; clear H; intro a H
            refine wl_nil ⟨rfl, ?_⟩
            exact draw_val (by kernel_rfl) hprm6 rfl rfl HT Hb hG hv (fun _ _ h => h) (rfl) H
          · intro Sd_ a w G1 _ hSi hc hG HT hv; have H := HT; clear hSi
            obtain ⟨u27, hu27, hp27⟩ := hv 7 27 (hc 7 (by decide)) rfl
            obtain rfl : u27 = .pointer (some ⟨sb, so + k * 3, none⟩) := hp27
            have H := H.addS hu27
            obtain ⟨u24, hu24, hp24⟩ := hv 4 24 (hc 4 (by decide)) rfl
            obtain rfl : u24 = .bool (decide ((k : Int) < (l.length : Int))) := hp24
            have H := H.addS hu24
            have Hb := H.full; have H := Hb; clear hc
            refine s_field fd138_0cls H (wg H rfl rfl (decide_eq_true c0)) rfl rfl ?_; clear H; intro a H
            refine wl_nil ⟨rfl, ?_⟩
            exact draw_val (by kernel_rfl) hprm6 rfl rfl HT Hb hG hv (fun _ _ h => h) (rfl) H
          · intro Sd_ a w G1 _ hSi hc hG HT hv; have H := HT; clear hSi
            obtain ⟨u28, hu28, hp28⟩ := hv 8 28 (hc 8 (by decide)) rfl
            obtain rfl : u28 = .pointer (some ⟨sb, so + k * 3 + 0, none⟩) := hp28
            have H := H.addS hu28
            obtain ⟨u24, hu24, hp24⟩ := hv 4 24 (hc 4 (by decide)) rfl
            obtain rfl : u24 = .bool (decide ((k : Int) < (l.length : Int))) := hp24
            have H := H.addS hu24
            have Hb := H.full; have H := Hb; clear hc
            obtain ⟨rfl, hx1, hx2, hx3, hx4⟩ := hx (by omega)
            refine s_load ty3cls H (wg H rfl rfl (decide_eq_true c0)) rfl (H.hp.gcell (gcell_mono hG hx3)) rfl ?_; clear H; intro a H
            refine wl_nil ⟨rfl, ?_⟩
            exact draw_val (by kernel_rfl) hprm6 rfl rfl HT Hb hG hv (fun _ _ h => h) (rfl) H
          · intro Sd_ a w G1 _ hSi hc hG HT hv; have H := HT; clear hSi
            obtain ⟨u24, hu24, hp24⟩ := hv 4 24 (hc 4 (by decide)) rfl
            obtain rfl : u24 = .bool (decide ((k : Int) < (l.length : Int))) := hp24
            have H := H.addS hu24
            have Hb := H.full; have H := Hb; clear hc
            refine s_load ty3cls H (wg H rfl rfl (decide_eq_true c0)) rfl (H.hp.gcell (gcell_mono hG q3)) rfl ?_; clear H; intro a H
            refine wl_nil ⟨rfl, ?_⟩
            exact draw_val (by kernel_rfl) hprm6 rfl rfl HT Hb hG hv (fun _ _ h => h) (rfl) H
          · intro Sd_ a w G1 _ hSi hc hG HT hv; have H := HT; clear hSi
            obtain ⟨u29, hu29, hp29⟩ := hv 9 29 (hc 9 (by decide)) rfl
            obtain rfl : u29 = vi lo := hp29
            have H := H.addS hu29
            obtain ⟨u30, hu30, hp30⟩ := hv 10 30 (hc 10 (by decide)) rfl
            obtain rfl : u30 = vi p := hp30
            have H := H.addS hu30
            obtain ⟨u24, hu24, hp24⟩ := hv 4 24 (hc 4 (by decide)) rfl
            obtain rfl : u24 = .bool (decide ((k : Int) < (l.length : Int))) := hp24
            have H := H.addS hu24
            have Hb := H.full; have H := Hb; clear hc
            refine s_cmp H (wg H rfl rfl (decide_eq_true c0)) rfl rfl rfl rfl ?_; clear H; intro a H
            refine wl_nil ⟨rfl, ?_⟩
            exact draw_val (by kernel_rfl) hprm6 rfl rfl HT Hb hG hv (fun _ _ h => h) (rfl) H
          intro Sd_ a w G1 _ hSi hc hG HT hv; have H := HT; clear hSi
          obtain ⟨u24, hu24, hp24⟩ := hv 4 24 (hc 4 (by decide)) rfl
          obtain rfl : u24 = .bool (decide ((k : Int) < (l.length : Int))) := hp24
          have H := H.addS hu24
          obtain ⟨u31, hu31, hp31⟩ := hv 11 31 (hc 11 (by decide)) rfl
          obtain rfl : u31 = .bool (decide (lo ≤ p)) := hp31
          have H := H.addS hu31
          have Hb := H.full; have H := Hb; clear hc
          refine s_pick_t H wn rfl (decide_eq_true c0) rfl rfl ?_; clear H; intro a H
          refine wl_nil ⟨rfl, ?_⟩
          exact draw_val (by kernel_rfl) hprm6 rfl rfl HT Hb hG hv (fun _ _ h => h) (rfl) H
        clear H; intro a w G hGm6 H hv
        obtain ⟨u32, hu32, hp32⟩ := hv 12 32 (by decide) rfl
        obtain rfl : u32 = .bool (decide (lo ≤ p)) := hp32
        have H := H.addS hu32
        clear hv
        refine wl_nil ⟨rfl, ?_⟩
        refine hK10 _ _ ?_; clear hK10
        refine c_cond_t H rfl (decide_eq_true c1) ?_
        refine c_seq (fun _ hK11 => ?_)
        obtain ⟨rfl, hx1, hx2, hx3, hx4⟩ := hx (by omega)
        have q2 := gcell_mono hGm6 q2
        have hx4 := gcell_mono hGm6 hx4
        refine c_region ?_
        refine s_load ty128cls H wn rfl (H.hp.gcell q2) rfl ?_; clear H; intro a H
        refine s_move H wn rfl rfl ?_; clear H; intro a H
        refine s_index un128cls ty138cls k H wn rfl rfl rfl (by omega) rfl ?_; clear H; intro a H
        refine s_field fd138_2cls H wn rfl rfl ?_; clear H; intro a H
        refine s_load ty3cls H wn rfl (H.hp.gcell hx4) rfl ?_; clear H; intro a H
        refine s_assign H wn rfl rfl ?_; clear H; intro a H
        refine wl_nil ?_
        refine hK11 _ _ ?_; clear hK11
        refine c_ret ?_
        refine (leave1 H Tryd.results65 (.cons (rv_tmp H rfl) .nil) ?_).1
        have hkl := fun (h : k < l.length) => List.getElem?_eq_getElem h
        exact H.hp.ret (by
          rw [clsOf, if_neg (by omega), ← hk]
          by_cases h : k < l.length
          · obtain ⟨-, hx1, hx2, -, -⟩ := hx h
            rw [hkl h] at hx1 hx2 ⊢
            simp only [Option.map_some, Option.some.injEq] at hx1 hx2
            dsimp only
            rw [hx1, hx2]
            first | rw [if_pos c1] | rw [if_neg c1] | exact absurd h (by omega)
          rw [List.getElem?_eq_none (by omega)] <;> first | rfl | exact absurd c0 (by omega))
      skip
      have hprm6 : ∀ (ix_ : Nat) (v : Value) (G G' : GH), (∀ k o, G k = some o → G' k = some o) → (fun (ix_ : Nat) (v : Value) (G : GH) => match ix_ with | 0 => v = vi k | 1 => v = .slice A l.length c | 2 => v = vi l.length | 3 => v = .bool (decide ((k : Int) < (l.length : Int))) | 4 => v = .bool (decide ((k : Int) < (l.length : Int))) | 5 => v = .slice A l.length c | 6 => v = vi k | 7 => v = .pointer (some ⟨sb, so + k * 3, none⟩) | 8 => v = .pointer (some ⟨sb, so + k * 3 + 0, none⟩) | 9 => v = vi lo | 10 => v = vi p | 11 => v = .bool (decide (lo ≤ p)) | 12 => v = .bool (decide (lo ≤ p)) | _ => True) ix_ v G → (fun (ix_ : Nat) (v : Value) (G : GH) => match ix_ with | 0 => v = vi k | 1 => v = .slice A l.length c | 2 => v = vi l.length | 3 => v = .bool (decide ((k : Int) < (l.length : Int))) | 4 => v = .bool (decide ((k : Int) < (l.length : Int))) | 5 => v = .slice A l.length c | 6 => v = vi k | 7 => v = .pointer (some ⟨sb, so + k * 3, none⟩) | 8 => v = .pointer (some ⟨sb, so + k * 3 + 0, none⟩) | 9 => v = vi lo | 10 => v = vi p | 11 => v = .bool (decide (lo ≤ p)) | 12 => v = .bool (decide (lo ≤ p)) | _ => True) ix_ v G' := by
        intro ix_ v G G' hm h
        match ix_, h with
        | 0, h => exact h
        | 1, h => exact h
        | 2, h => exact h
        | 3, h => exact h
        | 4, h => exact h
        | 5, h => exact h
        | 6, h => exact h
        | 7, h => exact h
        | 8, h => exact h
        | 9, h => exact h
        | 10, h => exact h
        | 11, h => exact h
        | 12, h => exact h
        | _ + 13, h => exact trivial
      refine c_drawI (hmxb) [[], [], [1], [0, 1, 2], [0, 1, 2, 3], [0, 1, 2, 3, 4], [0, 1, 2, 3, 4], [0, 1, 2, 3, 4, 5, 6], [0, 1, 2, 3, 4, 5, 6, 7], [0, 1, 2, 3, 4, 5, 6, 7, 8], [0, 1, 2, 3, 4], [0, 1, 2, 3, 4, 5, 6, 7, 8, 9, 10], [0, 1, 2, 3, 4, 5, 6, 7, 8, 9, 10, 11]] [] (by kernel_rfl) (by kernel_rfl) (fun (ix_ : Nat) (v : Value) (G : GH) => match ix_ with | 0 => v = vi k | 1 => v = .slice A l.length c | 2 => v = vi l.length | 3 => v = .bool (decide ((k : Int) < (l.length : Int))) | 4 => v = .bool (decide ((k : Int) < (l.length : Int))) | 5 => v = .slice A l.length c | 6 => v = vi k | 7 => v = .pointer (some ⟨sb, so + k * 3, none⟩) | 8 => v = .pointer (some ⟨sb, so + k * 3 + 0, none⟩) | 9 => v = vi lo | 10 => v = vi p | 11 => v = .bool (decide (lo ≤ p)) | 12 => v = .bool (decide (lo ≤ p)) | _ => True) hprm6 H ?_ ?_
      · clear H; refine (allI_cons ?_ (allI_cons ?_ (allI_cons ?_ (allI_cons ?_ (allI_cons ?_ (allI_cons ?_ (allI_cons ?_ (allI_cons ?_ (allI_cons ?_ (allI_cons ?_ (allI_cons ?_ (allI_cons ?_ (allI_cons ?_ allI_nil)))))))))))))
        · intro Sd_ a w G1 _ hSi hc hG HT hv; have H := HT; clear hSi
          have Hb := H.full; have H := Hb; clear hc
          refine s_move H wn rfl rfl ?_; clear H; intro a H
          refine wl_nil ⟨rfl, ?_⟩
          exact draw_val (by kernel_rfl) hprm6 rfl rfl HT Hb hG hv (fun _ _ h => h) (rfl) H
        · intro Sd_ a w G1 _ hSi hc hG HT hv; have H := HT; clear hSi
          have Hb := H.full; have H := Hb; clear hc
          refine s_load ty128cls H wn rfl (H.hp.gcell (gcell_mono hG q2)) rfl ?_; clear H; intro a H
          refine wl_nil ⟨rfl, ?_⟩
          exact draw_val (by kernel_rfl) hprm6 rfl rfl HT Hb hG hv (fun _ _ h => h) (rfl) H
        · intro Sd_ a w G1 _ hSi hc hG HT hv; have H := HT; clear hSi
          obtain ⟨u21, hu21, hp21⟩ := hv 1 21 (hc 1 (by decide)) rfl
          obtain rfl : u21 = .slice A l.length c := hp21
          have H := H.addS hu21
          have Hb := H.full; have H := Hb; clear hc
          refine s_len un128cls H wn rfl rfl ?_; clear H; intro a H
          refine wl_nil ⟨rfl, ?_⟩
          exact draw_val (by kernel_rfl) hprm6 rfl rfl HT Hb hG hv (fun _ _ h => h) (rfl) H
        · intro Sd_ a w G1 _ hSi hc hG HT hv; have H := HT; clear hSi
          obtain ⟨u20, hu20, hp20⟩ := hv 0 20 (hc 0 (by decide)) rfl
          obtain rfl : u20 = vi k := hp20
          have H := H.addS hu20
          obtain ⟨u22, hu22, hp22⟩ := hv 2 22 (hc 2 (by decide)) rfl
          obtain rfl : u22 = vi l.length := hp22
          have H := H.addS hu22
          have Hb := H.full; have H := Hb; clear hc
          refine s_cmp H wn rfl rfl rfl rfl ?_; clear H; intro a H
          refine wl_nil ⟨rfl, ?_⟩
          exact draw_val (by kernel_rfl) hprm6 rfl rfl HT Hb hG hv (fun _ _ h => h) (rfl) H
        · intro Sd_ a w G1 _ hSi hc hG HT hv; have H := HT; clear hSi
          obtain ⟨u23, hu23, hp23⟩ := hv 3 23 (hc 3 (by decide)) rfl
          obtain rfl : u23 = .bool (decide ((k : Int) < (l.length : Int))) := hp23
          have H := H.addS hu23
          have Hb := H.full; have H := Hb; clear hc
          refine s_move H wn rfl rfl ?_; clear H; intro a H
          refine wl_nil ⟨rfl, ?_⟩
          exact draw_val (by kernel_rfl) hprm6 rfl rfl HT Hb hG hv (fun _ _ h => h) (rfl) H
        · intro Sd_ a w G1 _ hSi hc hG HT hv; have H := HT; clear hSi
          obtain ⟨u24, hu24, hp24⟩ := hv 4 24 (hc 4 (by decide)) rfl
          obtain rfl : u24 = .bool (decide ((k : Int) < (l.length : Int))) := hp24
          have H := H.addS hu24
          have Hb := H.full; have H := Hb; clear hc
          refine s_load ty128cls H (wg H rfl rfl (decide_eq_true c0)) rfl (H.hp.gcell (gcell_mono hG q2)) rfl ?_; clear H; intro a H
          refine wl_nil ⟨rfl, ?_⟩
          exact draw_val (by kernel_rfl) hprm6 rfl rfl HT Hb hG hv (fun _ _ h => h) (rfl) H
        · intro Sd_ a w G1 _ hSi hc hG HT hv; have H := HT; clear hSi
          obtain ⟨u24, hu24, hp24⟩ := hv 4 24 (hc 4 (by decide)) rfl
          obtain rfl : u24 = .bool (decide ((k : Int) < (l.length : Int))) := hp24
          have H := H.addS hu24
          have Hb := H.full; have H := Hb; clear hc
          refine s_move H (wg H rfl rfl (decide_eq_true c0)) rfl rfl ?_; clear H; intro a H
          refine wl_nil ⟨rfl, ?_⟩
          exact draw_val (by kernel_rfl) hprm6 rfl rfl HT Hb hG hv (fun _ _ h => h) (rfl) H
        · intro Sd_ a w G1 _ hSi hc hG HT hv; have H := HT; clear hSi
          obtain ⟨u25, hu25, hp25⟩ := hv 5 25 (hc 5 (by decide)) rfl
          obtain rfl : u25 = .slice A l.length c := hp25
          have H := H.addS hu25
          obtain ⟨u26, hu26, hp26⟩ := hv 6 26 (hc 6 (by decide)) rfl
          obtain rfl : u26 = vi k := hp26
          have H := H.addS hu26
          obtain ⟨u24, hu24, hp24⟩ := hv 4 24 (hc 4 (by decide)) rfl
          obtain rfl : u24 = .bool (decide ((k : Int) < (l.length : Int))) := hp24
          have H := H.addS hu24
          have Hb := H.full; have H := Hb; clear hc
          obtain ⟨rfl, hx1, hx2, hx3, hx4⟩ := hx (by omega)
          refine s_index un128cls ty138cls k H (wg H rfl rfl (decide_eq_true c0)) rfl rfl rfl (by omega) rfl ?_; clear H; intro a H
          refine wl_nil ⟨rfl, ?_⟩
          exact draw_val (by kernel_rfl) hprm6 rfl rfl HT Hb hG hv (fun _ _ h => h) (rfl) H
        · intro Sd_ a w G1 _ hSi hc hG HT hv; have H := HT; clear hSi
          obtain ⟨u27, hu27, hp27⟩ := hv 7 27 (hc 7 (by decide)) rfl
          obtain rfl : u27 = .pointer (some ⟨sb, so + k * 3, none⟩) := hp27
          have H := H.addS hu27
          obtain ⟨u24, hu24, hp24⟩ := hv 4 24 (hc 4 (by decide)) rfl
          obtain rfl : u24 = .bool (decide ((k : Int) < (l.length : Int))) := hp24
          have H := H.addS hu24
          have Hb := H.full; have H := Hb; clear hc
          refine s_field fd138_0cls H (wg H rfl rfl (decide_eq_true c0)) rfl rfl ?_; clear H; intro a H
          refine wl_nil ⟨rfl, ?_⟩
          exact draw_val (by kernel_rfl) hprm6 rfl rfl HT Hb hG hv (fun _ _ h => h) (rfl) H
        · intro Sd_ a w G1 _ hSi hc hG HT hv; have H := HT; clear hSi
          obtain ⟨u28, hu28, hp28⟩ := hv 8 28 (hc 8 (by decide)) rfl
          obtain rfl : u28 = .pointer (some ⟨sb, so + k * 3 + 0, none⟩) := hp28
          have H := H.addS hu28
          obtain ⟨u24, hu24, hp24⟩ := hv 4 24 (hc 4 (by decide)) rfl
          obtain rfl : u24 = .bool (decide ((k : Int) < (l.length : Int))) := hp24
          have H := H.addS hu24
          have Hb := H.full; have H := Hb; clear hc
          obtain ⟨rfl, hx1, hx2, hx3, hx4⟩ := hx (by omega)
          refine s_load ty3cls H (wg H rfl rfl (decide_eq_true c0)) rfl (H.hp.gcell (gcell_mono hG hx3)) rfl ?_; clear H; intro a H
          refine wl_nil ⟨rfl, ?_⟩
          exact draw_val (by kernel_rfl) hprm6 rfl rfl HT Hb hG hv (fun _ _ h => h) (rfl) H
        · intro Sd_ a w G1 _ hSi hc hG HT hv; have H := HT; clear hSi
          obtain ⟨u24, hu24, hp24⟩ := hv 4 24 (hc 4 (by decide)) rfl
          obtain rfl : u24 = .bool (decide ((k : Int) < (l.length : Int))) := hp24
          have H := H.addS hu24
          have Hb := H.full; have H := Hb; clear hc
          refine s_load ty3cls H (wg H rfl rfl (decide_eq_true c0)) rfl (H.hp.gcell (gcell_mono hG q3)) rfl ?_; clear H; intro a H
          refine wl_nil ⟨rfl, ?_⟩
          exact draw_val (by kernel_rfl) hprm6 rfl rfl HT Hb hG hv (fun _ _ h => h) (rfl) H
        · intro Sd_ a w G1 _ hSi hc hG HT hv; have H := HT; clear hSi
          obtain ⟨u29, hu29, hp29⟩ := hv 9 29 (hc 9 (by decide)) rfl
          obtain rfl : u29 = vi lo := hp29
          have H := H.addS hu29
          obtain ⟨u30, hu30, hp30⟩ := hv 10 30 (hc 10 (by decide)) rfl
          obtain rfl : u30 = vi p := hp30
          have H := H.addS hu30
          obtain ⟨u24, hu24, hp24⟩ := hv 4 24 (hc 4 (by decide)) rfl
          obtain rfl : u24 = .bool (decide ((k : Int) < (l.length : Int))) := hp24
          have H := H.addS hu24
          have Hb := H.full; have H := Hb; clear hc
          refine s_cmp H (wg H rfl rfl (decide_eq_true c0)) rfl rfl rfl rfl ?_; clear H; intro a H
          refine wl_nil ⟨rfl, ?_⟩
          exact draw_val (by kernel_rfl) hprm6 rfl rfl HT Hb hG hv (fun _ _ h => h) (rfl) H
        intro Sd_ a w G1 _ hSi hc hG HT hv; have H := HT; clear hSi
        obtain ⟨u24, hu24, hp24⟩ := hv 4 24 (hc 4 (by decide)) rfl
        obtain rfl : u24 = .bool (decide ((k : Int) < (l.length : Int))) := hp24
        have H := H.addS hu24
        obtain ⟨u31, hu31, hp31⟩ := hv 11 31 (hc 11 (by decide)) rfl
        obtain rfl : u31 = .bool (decide (lo ≤ p)) := hp31
        have H := H.addS hu31
        have Hb := H.full; have H := Hb; clear hc
        refine s_pick_t H wn rfl (decide_eq_true c0) rfl rfl ?_; clear H; intro a H
        refine wl_nil ⟨rfl, ?_⟩
        exact draw_val (by kernel_rfl) hprm6 rfl rfl HT Hb hG hv (fun _ _ h => h) (rfl) H
      clear H; intro a w G hGm6 H hv
      obtain ⟨u32, hu32, hp32⟩ := hv 12 32 (by decide) rfl
      obtain rfl : u32 = .bool (decide (lo ≤ p)) := hp32
      have H := H.addS hu32
      clear hv
      refine wl_nil ⟨rfl, ?_⟩
      refine hK10 _ _ ?_; clear hK10
      refine c_cond_f H rfl (decide_eq_false c1) ?_
      refine c_skip ?_
      refine hK9 _ _ ?_; clear hK9
      refine c_seq (fun _ hK12 => ?_)
      refine c_region ?_
      refine s_assign H wn rfl rfl ?_; clear H; intro a H
      refine wl_nil ?_
      refine hK12 _ _ ?_; clear hK12
      refine c_ret ?_
      refine (leave1 H Tryd.results65 (.cons (rv_tmp H rfl) .nil) ?_).1
      have hkl := fun (h : k < l.length) => List.getElem?_eq_getElem h
      exact H.hp.ret (by
        rw [clsOf, if_neg (by omega), ← hk]
        by_cases h : k < l.length
        · obtain ⟨-, hx1, hx2, -, -⟩ := hx h
          rw [hkl h] at hx1 hx2 ⊢
          simp only [Option.map_some, Option.some.injEq] at hx1 hx2
          dsimp only
          rw [hx1, hx2]
          first | rw [if_pos c1] | rw [if_neg c1] | exact absurd h (by omega)
        rw [List.getElem?_eq_none (by omega)] <;> first | rfl | exact absurd c0 (by omega))
    skip
    have hprm6 : ∀ (ix_ : Nat) (v : Value) (G G' : GH), (∀ k o, G k = some o → G' k = some o) → (fun (ix_ : Nat) (v : Value) (G : GH) => match ix_ with | 0 => v = vi k | 1 => v = .slice A l.length c | 2 => v = vi l.length | 3 => v = .bool (decide ((k : Int) < (l.length : Int))) | 4 => v = .bool (decide ((k : Int) < (l.length : Int))) | 5 => v = undef | 6 => v = undef | 7 => v = undef | 8 => v = undef | 9 => v = undef | 10 => v = undef | 11 => v = undef | 12 => v = .bool false | _ => True) ix_ v G → (fun (ix_ : Nat) (v : Value) (G : GH) => match ix_ with | 0 => v = vi k | 1 => v = .slice A l.length c | 2 => v = vi l.length | 3 => v = .bool (decide ((k : Int) < (l.length : Int))) | 4 => v = .bool (decide ((k : Int) < (l.length : Int))) | 5 => v = undef | 6 => v = undef | 7 => v = undef | 8 => v = undef | 9 => v = undef | 10 => v = undef | 11 => v = undef | 12 => v = .bool false | _ => True) ix_ v G' := by
      intro ix_ v G G' hm h
      match ix_, h with
      | 0, h => exact h
      | 1, h => exact h
      | 2, h => exact h
      | 3, h => exact h
      | 4, h => exact h
      | 5, h => exact h
      | 6, h => exact h
      | 7, h => exact h
      | 8, h => exact h
      | 9, h => exact h
      | 10, h => exact h
      | 11, h => exact h
      | 12, h => exact h
      | _ + 13, h => exact trivial
    refine c_drawI (hmxb) [[], [], [1], [0, 1, 2], [0, 1, 2, 3], [0, 1, 2, 3, 4], [0, 1, 2, 3, 4], [0, 1, 2, 3, 4, 5, 6], [0, 1, 2, 3, 4, 5, 6, 7], [0, 1, 2, 3, 4, 5, 6, 7, 8], [0, 1, 2, 3, 4], [0, 1, 2, 3, 4, 5, 6, 7, 8, 9, 10], [0, 1, 2, 3, 4, 5, 6, 7, 8, 9, 10, 11]] [] (by kernel_rfl) (by kernel_rfl) (fun (ix_ : Nat) (v : Value) (G : GH) => match ix_ with | 0 => v = vi k | 1 => v = .slice A l.length c | 2 => v = vi l.length | 3 => v = .bool (decide ((k : Int) < (l.length : Int))) | 4 => v = .bool (decide ((k : Int) < (l.length : Int))) | 5 => v = undef | 6 => v = undef | 7 => v = undef | 8 => v = undef | 9 => v = undef | 10 => v = undef | 11 => v = undef | 12 => v = .bool false | _ => True) hprm6 H ?_ ?_
    · clear H; refine (allI_cons ?_ (allI_cons ?_ (allI_cons ?_ (allI_cons ?_ (allI_cons ?_ (allI_cons ?_ (allI_cons ?_ (allI_cons ?_ (allI_cons ?_ (allI_cons ?_ (allI_cons ?_ (allI_cons ?_ (allI_cons ?_ allI_nil)))))))))))))
      · intro Sd_ a w G1 _ hSi hc hG HT hv; have H := HT; clear hSi
        have Hb := H.full; have H := Hb; clear hc
        refine s_move H wn rfl rfl ?_; clear H; intro a H
        refine wl_nil ⟨rfl, ?_⟩
        exact draw_val (by kernel_rfl) hprm6 rfl rfl HT Hb hG hv (fun _ _ h => h) (rfl) H
      · intro Sd_ a w G1 _ hSi hc hG HT hv; have H := HT; clear hSi
        have Hb := H.full; have H := Hb; clear hc
        refine s_load ty128cls H wn rfl (H.hp.gcell (gcell_mono hG q2)) rfl ?_; clear H; intro a H
        refine wl_nil ⟨rfl, ?_⟩
        exact draw_val (by kernel_rfl) hprm6 rfl rfl HT Hb hG hv (fun _ _ h => h) (rfl) H
      · intro Sd_ a w G1 _ hSi hc hG HT hv; have H := HT; clear hSi
        obtain ⟨u21, hu21, hp21⟩ := hv 1 21 (hc 1 (by decide)) rfl
        obtain rfl : u21 = .slice A l.length c := hp21
        have H := H.addS hu21
        have Hb := H.full; have H := Hb; clear hc
        refine s_len un128cls H wn rfl rfl ?_; clear H; intro a H
        refine wl_nil ⟨rfl, ?_⟩
        exact draw_val (by kernel_rfl) hprm6 rfl rfl HT Hb hG hv (fun _ _ h => h) (rfl) H
      · intro Sd_ a w G1 _ hSi hc hG HT hv; have H := HT; clear hSi
        obtain ⟨u20, hu20, hp20⟩ := hv 0 20 (hc 0 (by decide)) rfl
        obtain rfl : u20 = vi k := hp20
        have H := H.addS hu20
        obtain ⟨u22, hu22, hp22⟩ := hv 2 22 (hc 2 (by decide)) rfl
        obtain rfl : u22 = vi l.length := hp22
        have H := H.addS hu22
        have Hb := H.full; have H := Hb; clear hc
        refine s_cmp H wn rfl rfl rfl rfl ?_; clear H; intro a H
        refine wl_nil ⟨rfl, ?_⟩
        exact draw_val (by kernel_rfl) hprm6 rfl rfl HT Hb hG hv (fun _ _ h => h) (rfl) H
      · intro Sd_ a w G1 _ hSi hc hG HT hv; have H := HT; clear hSi
        obtain ⟨u23, hu23, hp23⟩ := hv 3 23 (hc 3 (by decide)) rfl
        obtain rfl : u23 = .bool (decide ((k : Int) < (l.length : Int))) := hp23
        have H := H.addS hu23
        have Hb := H.full; have H := Hb; clear hc
        refine s_move H wn rfl rfl ?_; clear H; intro a H
        refine wl_nil ⟨rfl, ?_⟩
        exact draw_val (by kernel_rfl) hprm6 rfl rfl HT Hb hG hv (fun _ _ h => h) (rfl) H
      · intro Sd_ a w G1 _ hSi hc hG HT hv; have H := HT; clear hSi
        obtain ⟨u24, hu24, hp24⟩ := hv 4 24 (hc 4 (by decide)) rfl
        obtain rfl : u24 = .bool (decide ((k : Int) < (l.length : Int))) := hp24
        have H := H.addS hu24
        have Hb := H.full; have H := Hb; clear hc
        refine s_skip H rfl rfl (decide_eq_false c0) rfl ?_; clear H; intro a H
        refine wl_nil ⟨rfl, ?_⟩
        exact draw_val (by kernel_rfl) hprm6 rfl rfl HT Hb hG hv (fun _ _ h => h) (rfl) H
      · intro Sd_ a w G1 _ hSi hc hG HT hv; have H := HT; clear hSi
        obtain ⟨u24, hu24, hp24⟩ := hv 4 24 (hc 4 (by decide)) rfl
        obtain rfl : u24 = .bool (decide ((k : Int) < (l.length : Int))) := hp24
        have H := H.addS hu24
        have Hb := H.full; have H := Hb; clear hc
        refine s_skip H rfl rfl (decide_eq_false c0) rfl ?_; clear H; intro a H
        refine wl_nil ⟨rfl, ?_⟩
        exact draw_val (by kernel_rfl) hprm6 rfl rfl HT Hb hG hv (fun _ _ h => h) (rfl) H
      · intro Sd_ a w G1 _ hSi hc hG HT hv; have H := HT; clear hSi
        obtain ⟨u25, hu25, hp25⟩ := hv 5 25 (hc 5 (by decide)) rfl
        obtain rfl : u25 = undef := hp25
        have H := H.addS hu25
        obtain ⟨u26, hu26, hp26⟩ := hv 6 26 (hc 6 (by decide)) rfl
        obtain rfl : u26 = undef := hp26
        have H := H.addS hu26
        obtain ⟨u24, hu24, hp24⟩ := hv 4 24 (hc 4 (by decide)) rfl
        obtain rfl : u24 = .bool (decide ((k : Int) < (l.length : Int))) := hp24
        have H := H.addS hu24
        have Hb := H.full; have H := Hb; clear hc
        refine s_skip H rfl rfl (decide_eq_false c0) rfl ?_; clear H; intro a H
        refine wl_nil ⟨rfl, ?_⟩
        exact draw_val (by kernel_rfl) hprm6 rfl rfl HT Hb hG hv (fun _ _ h => h) (rfl) H
      · intro Sd_ a w G1 _ hSi hc hG HT hv; have H := HT; clear hSi
        obtain ⟨u27, hu27, hp27⟩ := hv 7 27 (hc 7 (by decide)) rfl
        obtain rfl : u27 = undef := hp27
        have H := H.addS hu27
        obtain ⟨u24, hu24, hp24⟩ := hv 4 24 (hc 4 (by decide)) rfl
        obtain rfl : u24 = .bool (decide ((k : Int) < (l.length : Int))) := hp24
        have H := H.addS hu24
        have Hb := H.full; have H := Hb; clear hc
        refine s_skip H rfl rfl (decide_eq_false c0) rfl ?_; clear H; intro a H
        refine wl_nil ⟨rfl, ?_⟩
        exact draw_val (by kernel_rfl) hprm6 rfl rfl HT Hb hG hv (fun _ _ h => h) (rfl) H
      · intro Sd_ a w G1 _ hSi hc hG HT hv; have H := HT; clear hSi
        obtain ⟨u28, hu28, hp28⟩ := hv 8 28 (hc 8 (by decide)) rfl
        obtain rfl : u28 = undef := hp28
        have H := H.addS hu28
        obtain ⟨u24, hu24, hp24⟩ := hv 4 24 (hc 4 (by decide)) rfl
        obtain rfl : u24 = .bool (decide ((k : Int) < (l.length : Int))) := hp24
        have H := H.addS hu24
        have Hb := H.full; have H := Hb; clear hc
        refine s_skip H rfl rfl (decide_eq_false c0) rfl ?_; clear H; intro a H
        refine wl_nil ⟨rfl, ?_⟩
        exact draw_val (by kernel_rfl) hprm6 rfl rfl HT Hb hG hv (fun _ _ h => h) (rfl) H
      · intro Sd_ a w G1 _ hSi hc hG HT hv; have H := HT; clear hSi
        obtain ⟨u24, hu24, hp24⟩ := hv 4 24 (hc 4 (by decide)) rfl
        obtain rfl : u24 = .bool (decide ((k : Int) < (l.length : Int))) := hp24
        have H := H.addS hu24
        have Hb := H.full; have H := Hb; clear hc
        refine s_skip H rfl rfl (decide_eq_false c0) rfl ?_; clear H; intro a H
        refine wl_nil ⟨rfl, ?_⟩
        exact draw_val (by kernel_rfl) hprm6 rfl rfl HT Hb hG hv (fun _ _ h => h) (rfl) H
      · intro Sd_ a w G1 _ hSi hc hG HT hv; have H := HT; clear hSi
        obtain ⟨u29, hu29, hp29⟩ := hv 9 29 (hc 9 (by decide)) rfl
        obtain rfl : u29 = undef := hp29
        have H := H.addS hu29
        obtain ⟨u30, hu30, hp30⟩ := hv 10 30 (hc 10 (by decide)) rfl
        obtain rfl : u30 = undef := hp30
        have H := H.addS hu30
        obtain ⟨u24, hu24, hp24⟩ := hv 4 24 (hc 4 (by decide)) rfl
        obtain rfl : u24 = .bool (decide ((k : Int) < (l.length : Int))) := hp24
        have H := H.addS hu24
        have Hb := H.full; have H := Hb; clear hc
        refine s_skip H rfl rfl (decide_eq_false c0) rfl ?_; clear H; intro a H
        refine wl_nil ⟨rfl, ?_⟩
        exact draw_val (by kernel_rfl) hprm6 rfl rfl HT Hb hG hv (fun _ _ h => h) (rfl) H
      intro Sd_ a w G1 _ hSi hc hG HT hv; have H := HT; clear hSi
      obtain ⟨u24, hu24, hp24⟩ := hv 4 24 (hc 4 (by decide)) rfl
      obtain rfl : u24 = .bool (decide ((k : Int) < (l.length : Int))) := hp24
      have H := H.addS hu24
      obtain ⟨u31, hu31, hp31⟩ := hv 11 31 (hc 11 (by decide)) rfl
      obtain rfl : u31 = undef := hp31
      have H := H.addS hu31
      have Hb := H.full; have H := Hb; clear hc
      refine s_pick_f H wn rfl (decide_eq_false c0) rfl rfl ?_; clear H; intro a H
      refine wl_nil ⟨rfl, ?_⟩
      exact draw_val (by kernel_rfl) hprm6 rfl rfl HT Hb hG hv (fun _ _ h => h) (rfl) H
    clear H; intro a w G hGm6 H hv
    obtain ⟨u32, hu32, hp32⟩ := hv 12 32 (by decide) rfl
    obtain rfl : u32 = .bool false := hp32
    have H := H.addS hu32
    clear hv
    refine wl_nil ⟨rfl, ?_⟩
    refine hK10 _ _ ?_; clear hK10
    refine c_cond_f H rfl rfl ?_
    refine c_skip ?_
    refine hK9 _ _ ?_; clear hK9
    refine c_seq (fun _ hK13 => ?_)
    refine c_region ?_
    refine s_assign H wn rfl rfl ?_; clear H; intro a H
    refine wl_nil ?_
    refine hK13 _ _ ?_; clear hK13
    refine c_ret ?_
    refine (leave1 H Tryd.results65 (.cons (rv_tmp H rfl) .nil) ?_).1
    have hkl := fun (h : k < l.length) => List.getElem?_eq_getElem h
    exact H.hp.ret (by
      rw [clsOf, if_neg (by omega), ← hk]
      by_cases h : k < l.length
      · obtain ⟨-, hx1, hx2, -, -⟩ := hx h
        rw [hkl h] at hx1 hx2 ⊢
        simp only [Option.map_some, Option.some.injEq] at hx1 hx2
        dsimp only
        rw [hx1, hx2]
        first | rw [if_pos c1] | rw [if_neg c1] | exact absurd h (by omega)
      rw [List.getElem?_eq_none (by omega)] <;> first | rfl | exact absurd c0 (by omega))
  intro h8
  try have p8 := of_decide_eq_false h8
  refine s_skip H rfl rfl h8 rfl ?_; clear H; intro a H
  refine s_skip H rfl rfl h8 rfl ?_; clear H; intro a H
  refine s_pick_f H wn rfl h8 rfl rfl ?_; clear H; intro a H
  refine wl_nil ?_
  refine hK3 _ _ ?_; clear hK3
  refine c_cond_f H rfl rfl ?_
  refine c_skip ?_
  refine hK2 _ _ ?_; clear hK2
  refine c_seq (fun _ hK14 => ?_)
  obtain ⟨Ga, hma, hb3', H⟩ := H.giveBox
  obtain ⟨Gb, hmb, hb2', H⟩ := H.giveBox
  have hv2 := (hv.mono hma).mono hmb
  have q2 : gcell Gb b2 0 = some (.slice A l.length c) := by unfold gcell; rw [hb2']; rfl
  have q3 : gcell Gb b3 0 = some (vi p) := by unfold gcell; rw [hmb _ _ hb3']; rfl
  refine c_region ?_
  refine s_load ty128cls H wn rfl (H.hp.gcell q2) rfl ?_; clear H; intro a H
  refine s_len un128cls H wn rfl rfl ?_; clear H; intro a H
  refine s_makeFunc H wn rfl rfl ?_; clear H; intro a H
  refine s_call en69cls H wn rfl (search_spec _ _ H.hp.ro l.length (hiS l p) _ hl (fun i G1 w1 hi hm hG1 => hi_spec q2 q3 hv2 i G1 w1 hi hm hG1)) rfl ?_; clear H
  rintro v19 G19 a w rfl hm19 H
  have q2 := gcell_mono hm19 q2
  have q3 := gcell_mono hm19 q3
  have hv2 := hv2.mono hm19
  obtain ⟨k, hk⟩ : ∃ k, k = bs (hiS l p) l.length 0 l.length := ⟨_, rfl⟩
  rw [← hk] at H
  refine s_assign H wn rfl rfl ?_; clear H; intro a H
  refine wl_nil ?_
  refine hK14 _ _ ?_; clear hK14
  refine c_seq (fun _ hK15 => ?_)
  refine c_seq (fun _ hK16 => ?_)
  obtain ⟨lo, cl, sb, so, hx⟩ : ∃ lo cl sb so, k < l.length → A = some ⟨sb, so, none⟩ ∧ l[k]?.map SpanD.low = some lo ∧ l[k]?.map SpanD.cls = some cl ∧ gcell G19 sb (so + k * 3 + 0) = some (vi lo) ∧ gcell G19 sb (so + k * 3 + 2) = some (vi cl) := by
    by_cases h : k < l.length
    · obtain ⟨sb, so, h1, h2⟩ := span_at hv2 h
      exact ⟨_, _, sb, so, fun _ => ⟨h1, by rw [List.getElem?_eq_getElem h]; rfl, by rw [List.getElem?_eq_getElem h]; rfl, h2 0 _ rfl, h2 2 _ rfl⟩⟩
    exact ⟨0, 0, 0, 0, fun h' => absurd h' h⟩
  by_cases c0 : (k : Int) < (l.length : Int)
  · skip
    by_cases c1 : lo ≤ p
    · skip
      have hprm6 : ∀ (ix_ : Nat) (v : Value) (G G' : GH), (∀ k o, G k = some o → G' k = some o) → (fun (ix_ : Nat) (v : Value) (G : GH) => match ix_ with | 0 => v = vi k | 1 => v = .slice A l.length c | 2 => v = vi l.length | 3 => v = .bool (decide ((k : Int) < (l.length : Int))) | 4 => v = .bool (decide ((k : Int) < (l.length : Int))) | 5 => v = .slice A l.length c | 6 => v = vi k | 7 => v = .pointer (some ⟨sb, so + k * 3, none⟩) | 8 => v = .pointer (some ⟨sb, so + k * 3 + 0, none⟩) | 9 => v = vi lo | 10 => v = vi p | 11 => v = .bool (decide (lo ≤ p)) | 12 => v = .bool (decide (lo ≤ p)) | _ => True) ix_ v G → (fun (ix_ : Nat) (v : Value) (G : GH) => match ix_ with | 0 => v = vi k | 1 => v = .slice A l.length c | 2 => v = vi l.length | 3 => v = .bool (decide ((k : Int) < (l.length : Int))) | 4 => v = .bool (decide ((k : Int) < (l.length : Int))) | 5 => v = .slice A l.length c | 6 => v = vi k | 7 => v = .pointer (some ⟨sb, so + k * 3, none⟩) | 8 => v = .pointer (some ⟨sb, so + k * 3 + 0, none⟩) | 9 => v = vi lo | 10 => v = vi p | 11 => v = .bool (decide (lo ≤ p)) | 12 => v = .bool (decide (lo ≤ p)) | _ => True) ix_ v G' := by
        intro ix_ v G G' hm h
        match ix_, h with
        | 0, h => exact h
        | 1, h => exact h
        | 2, h => exact h
        | 3, h => exact h
        | 4, h => exact h
        | 5, h => exact h
        | 6, h => exact h
        | 7, h => exact h
        | 8, h => exact h
        | 9, h => exact h
        | 10, h => exact h
        | 11, h => exact h
        | 12, h => exact h
        | _ + 13, h => exact trivial
      refine c_drawI (hmxb) [[], [], [1], [0, 1, 2], [0, 1, 2, 3], [0, 1, 2, 3, 4], [0, 1, 2, 3, 4], [0, 1, 2, 3, 4, 5, 6], [0, 1, 2, 3, 4, 5, 6, 7], [0, 1, 2, 3, 4, 5, 6, 7, 8], [0, 1, 2, 3, 4], [0, 1, 2, 3, 4, 5, 6, 7, 8, 9, 10], [0, 1, 2, 3, 4, 5, 6, 7, 8, 9, 10, 11]] [] (by kernel_rfl) (by kernel_rfl) (fun (ix_ : Nat) (v : Value) (G : GH) => match ix_ with | 0 => v = vi k | 1 => v = .slice A l.length c | 2 => v = vi l.length | 3 => v = .bool (decide ((k : Int) < (l.length : Int))) | 4 => v = .bool (decide ((k : Int) < (l.length : Int))) | 5 => v = .slice A l.length c | 6 => v = vi k | 7 => v = .pointer (some ⟨sb, so + k * 3, none⟩) | 8 => v = .pointer (some ⟨sb, so + k * 3 + 0, none⟩) | 9 => v = vi lo | 10 => v = vi p | 11 => v = .bool (decide (lo ≤ p)) | 12 => v = .bool (decide (lo ≤ p)) | _ => True) hprm6 H ?_ ?_
      · clear H; refine (allI_cons ?_ (allI_cons ?_ (allI_cons ?_ (allI_cons ?_ (allI_cons ?_ (allI_cons ?_ (allI_cons ?_ (allI_cons ?_ (allI_cons ?_ (allI_cons ?_ (allI_cons ?_ (allI_cons ?_ (allI_cons ?_ allI_nil)))))))))))))
        · intro Sd_ a w G1 _ hSi hc hG HT hv; have H := HT; clear hSi
          have Hb := H.full; have H := Hb; clear hc
          refine s_move H wn rfl rfl ?_; clear H; intro a H
          refine wl_nil ⟨rfl, ?_⟩
          exact draw_val (by kernel_rfl) hprm6 rfl rfl HT Hb hG hv (fun _ _ h => h) (rfl) H
        · intro Sd_ a w G1 _ hSi hc hG HT hv; have H := HT; clear hSi
          have Hb := H.full; have H := Hb; clear hc
          refine s_load ty128cls H wn rfl (H.hp.gcell (gcell_mono hG q2)) rfl ?_; clear H; intro a H
          refine wl_nil ⟨rfl, ?_⟩
          exact draw_val (by kernel_rfl) hprm6 rfl rfl HT Hb hG hv (fun _ _ h => h) (rfl) H
        · intro Sd_ a w G1 _ hSi hc hG HT hv; have H := HT; clear hSi
          obtain ⟨u21, hu21, hp21⟩ := hv 1 21 (hc 1 (by decide)) rfl
          obtain rfl : u21 = .slice A l.length c := hp21
          have H := H.addS hu21
          have Hb := H.full; have H := Hb; clear hc
          refine s_len un128cls H wn rfl rfl ?_; clear H; intro a H
          refine wl_nil ⟨rfl, ?_⟩
          exact draw_val (by kernel_rfl) hprm6 rfl rfl HT Hb hG hv (fun _ _ h => h) (rfl) H
        · intro Sd_ a w G1 _ hSi hc hG HT hv; have H := HT; clear hSi
          obtain ⟨u20, hu20, hp20⟩ := hv 0 20 (hc 0 (by decide)) rfl
          obtain rfl : u20 = vi k := hp20
          have H := H.addS hu20
          obtain ⟨u22, hu22, hp22⟩ := hv 2 22 (hc 2 (by decide)) rfl
          obtain rfl : u22 = vi l.length := hp22
          have H := H.addS hu22
          have Hb := H.full; have H := Hb; clear hc
          refine s_cmp H wn rfl rfl rfl rfl ?_; clear H; intro a H
          refine wl_nil ⟨rfl, ?_⟩
          exact draw_val (by kernel_rfl) hprm6 rfl rfl HT Hb hG hv (fun _ _ h => h) (rfl) H
        · intro Sd_ a w G1 _ hSi hc hG HT hv; have H := HT; clear hSi
          obtain ⟨u23, hu23, hp23⟩ := hv 3 23 (hc 3 (by decide)) rfl
          obtain rfl : u23 = .bool (decide ((k : Int) < (l.length : Int))) := hp23
          have H := H.addS hu23
          have Hb := H.full; have H := Hb; clear hc
          refine s_move H wn rfl rfl ?_; clear H; intro a H
          refine wl_nil ⟨rfl, ?_⟩
          exact draw_val (by kernel_rfl) hprm6 rfl rfl HT Hb hG hv (fun _ _ h => h) (rfl) H
        · intro Sd_ a w G1 _ hSi hc hG HT hv; have H := HT; clear hSi
          obtain ⟨u24, hu24, hp24⟩ := hv 4 24 (hc 4 (by decide)) rfl
          obtain rfl : u24 = .bool (decide ((k : Int) < (l.length : Int))) := hp24
          have H := H.addS hu24
          have Hb := H.full; have H := Hb; clear hc
          refine s_load ty128cls H (wg H rfl rfl (decide_eq_true c0)) rfl (H.hp.gcell (gcell_mono hG q2)) rfl ?_; clear H; intro a H
          refine wl_nil ⟨rfl, ?_⟩
          exact draw_val (by kernel_rfl) hprm6 rfl rfl HT Hb hG hv (fun _ _ h => h) (rfl) H
        · intro Sd_ a w G1 _ hSi hc hG HT hv; have H := HT; clear hSi
          obtain ⟨u24, hu24, hp24⟩ := hv 4 24 (hc 4 (by decide)) rfl
          obtain rfl : u24 = .bool (decide ((k : Int) < (l.length : Int))) := hp24
          have H := H.addS hu24
          have Hb := H.full; have H := Hb; clear hc
          refine s_move H (wg H rfl rfl (decide_eq_true c0)) rfl rfl ?_; clear H; intro a H
          refine wl_nil ⟨rfl, ?_⟩
          exact draw_val (by kernel_rfl) hprm6 rfl rfl HT Hb hG hv (fun _ _ h => h) (rfl) H
        · intro Sd_ a w G1 _ hSi hc hG HT hv; have H := HT; clear hSi
          obtain ⟨u25, hu25, hp25⟩ := hv 5 25 (hc 5 (by decide)) rfl
          obtain rfl : u25 = .slice A l.length c := hp25
          have H := H.addS hu25
          obtain ⟨u26, hu26, hp26⟩ := hv 6 26 (hc 6 (by decide)) rfl
          obtain rfl : u26 = vi k := hp26
          have H := H.addS hu26
          obtain ⟨u24, hu24, hp24⟩ := hv 4 24 (hc 4 (by decide)) rfl
          obtain rfl : u24 = .bool (decide ((k : Int) < (l.length : Int))) := hp24
          have H := H.addS hu24
          have Hb := H.full; have H := Hb; clear hc
          obtain ⟨rfl, hx1, hx2, hx3, hx4⟩ := hx (by omega)
          refine s_index un128cls ty138cls k H (wg H rfl rfl (decide_eq_true c0)) rfl rfl rfl (by omega) rfl ?_; clear H; intro a H
          refine wl_nil ⟨rfl, ?_⟩
          exact draw_val (by kernel_rfl) hprm6 rfl rfl HT Hb hG hv (fun _ _ h => h) (rfl) H
        · intro Sd_ a w G1 _ hSi hc hG HT hv; have H := HT; clear hSi
          obtain ⟨u27, hu27, hp27⟩ := hv 7 27 (hc 7 (by decide)) rfl
          obtain rfl : u27 = .pointer (some ⟨sb, so + k * 3, none⟩) := hp27
          have H := H.addS hu27
          obtain ⟨u24, hu24, hp24⟩ := hv 4 24 (hc 4 (by decide)) rfl
          obtain rfl : u24 = .bool (decide ((k : Int) < (l.length : Int))) := hp24
          have H := H.addS hu24
          have Hb := H.full; have H := Hb; clear hc
          refine s_field fd138_0cls H (wg H rfl rfl (decide_eq_true c0)) rfl rfl ?_; clear H; intro a H
          refine wl_nil ⟨rfl, ?_⟩
          exact draw_val (by kernel_rfl) hprm6 rfl rfl HT Hb hG hv (fun _ _ h => h) (rfl) H
        · intro Sd_ a w G1 _ hSi hc hG HT hv; have H := HT; clear hSi
          obtain ⟨u28, hu28, hp28⟩ := hv 8 28 (hc 8 (by decide)) rfl
          obtain rfl : u28 = .pointer (some ⟨sb, so + k * 3 + 0, none⟩) := hp28
          have H := H.addS hu28
          obtain ⟨u24, hu24, hp24⟩ := hv 4 24 (hc 4 (by decide)) rfl
          obtain rfl : u24 = .bool (decide ((k : Int) < (l.length : Int))) := hp24
          have H := H.addS hu24
          have Hb := H.full; have H := Hb; clear hc
          obtain ⟨rfl, hx1, hx2, hx3, hx4⟩ := hx (by omega)
          refine s_load ty3cls H (wg H rfl rfl (decide_eq_true c0)) rfl (H.hp.gcell (gcell_mono hG hx3)) rfl ?_; clear H; intro a H
          refine wl_nil ⟨rfl, ?_⟩
          exact draw_val (by kernel_rfl) hprm6 rfl rfl HT Hb hG hv (fun _ _ h => h) (rfl) H
        · intro Sd_ a w G1 _ hSi hc hG HT hv; have H := HT; clear hSi
          obtain ⟨u24, hu24, hp24⟩ := hv 4 24 (hc 4 (by decide)) rfl
          obtain rfl : u24 = .bool (decide ((k : Int) < (l.length : Int))) := hp24
          have H := H.addS hu24
          have Hb := H.full; have H := Hb; clear hc
          refine s_load ty3cls H (wg H rfl rfl (decide_eq_true c0)) rfl (H.hp.gcell (gcell_mono hG q3)) rfl ?_; clear H; intro a H
          refine wl_nil ⟨rfl, ?_⟩
          exact draw_val (by kernel_rfl) hprm6 rfl rfl HT Hb hG hv (fun _ _ h => h) (rfl) H
        · intro Sd_ a w G1 _ hSi hc hG HT hv; have H := HT; clear hSi
          obtain ⟨u29, hu29, hp29⟩ := hv 9 29 (hc 9 (by decide)) rfl
          obtain rfl : u29 = vi lo := hp29
          have H := H.addS hu29
          obtain ⟨u30, hu30, hp30⟩ := hv 10 30 (hc 10 (by decide)) rfl
          obtain rfl : u30 = vi p := hp30
          have H := H.addS hu30
          obtain ⟨u24, hu24, hp24⟩ := hv 4 24 (hc 4 (by decide)) rfl
          obtain rfl : u24 = .bool (decide ((k : Int) < (l.length : Int))) := hp24
          have H := H.addS hu24
          have Hb := H.full; have H := Hb; clear hc
          refine s_cmp H (wg H rfl rfl (decide_eq_true c0)) rfl rfl rfl rfl ?_; clear H; intro a H
          refine wl_nil ⟨rfl, ?_⟩
          exact draw_val (by kernel_rfl) hprm6 rfl rfl HT Hb hG hv (fun _ _ h => h) (rfl) H
        intro Sd_ a w G1 _ hSi hc hG HT hv; have H := HT; clear hSi
        obtain ⟨u24, hu24, hp24⟩ := hv 4 24 (hc 4 (by decide)) rfl
        obtain rfl : u24 = .bool (decide ((k : Int) < (l.length : Int))) := hp24
        have H := H.addS hu24
        obtain ⟨u31, hu31, hp31⟩ := hv 11 31 (hc 11 (by decide)) rfl
        obtain rfl : u31 = .bool (decide (lo ≤ p)) := hp31
        have H := H.addS hu31
        have Hb := H.full; have H := Hb; clear hc
        refine s_pick_t H wn rfl (decide_eq_true c0) rfl rfl ?_; clear H; intro a H
        refine wl_nil ⟨rfl, ?_⟩
        exact draw_val (by kernel_rfl) hprm6 rfl rfl HT Hb hG hv (fun _ _ h => h) (rfl) H
      clear H; intro a w G hGm6 H hv
      obtain ⟨u32, hu32, hp32⟩ := hv 12 32 (by decide) rfl
      obtain rfl : u32 = .bool (decide (lo ≤ p)) := hp32
      have H := H.addS hu32
      clear hv
      refine wl_nil ⟨rfl, ?_⟩
      refine hK16 _ _ ?_; clear hK16
      refine c_cond_t H rfl (decide_eq_true c1) ?_
      refine c_seq (fun _ hK17 => ?_)
      obtain ⟨rfl, hx1, hx2, hx3, hx4⟩ := hx (by omega)
      have q2 := gcell_mono hGm6 q2
      have hx4 := gcell_mono hGm6 hx4
      refine c_region ?_
      refine s_load ty128cls H wn rfl (H.hp.gcell q2) rfl ?_; clear H; intro a H
      refine s_move H wn rfl rfl ?_; clear H; intro a H
      refine s_index un128cls ty138cls k H wn rfl rfl rfl (by omega) rfl ?_; clear H; intro a H
      refine s_field fd138_2cls H wn rfl rfl ?_; clear H; intro a H
      refine s_load ty3cls H wn rfl (H.hp.gcell hx4) rfl ?_; clear H; intro a H
      refine s_assign H wn rfl rfl ?_; clear H; intro a H
      refine wl_nil ?_
      refine hK17 _ _ ?_; clear hK17
      refine c_ret ?_
      refine (leave1 H Tryd.results65 (.cons (rv_tmp H rfl) .nil) ?_).1
      have hkl := fun (h : k < l.length) => List.getElem?_eq_getElem h
      exact H.hp.ret (by
        rw [clsOf, if_neg (by omega), ← hk]
        by_cases h : k < l.length
        · obtain ⟨-, hx1, hx2, -, -⟩ := hx h
          rw [hkl h] at hx1 hx2 ⊢
          simp only [Option.map_some, Option.some.injEq] at hx1 hx2
          dsimp only
          rw [hx1, hx2]
          first | rw [if_pos c1] | rw [if_neg c1] | exact absurd h (by omega)
        rw [List.getElem?_eq_none (by omega)] <;> first | rfl | exact absurd c0 (by omega))
    skip
    have hprm6 : ∀ (ix_ : Nat) (v : Value) (G G' : GH), (∀ k o, G k = some o → G' k = some o) → (fun (ix_ : Nat) (v : Value) (G : GH) => match ix_ with | 0 => v = vi k | 1 => v = .slice A l.length c | 2 => v = vi l.length | 3 => v = .bool (decide ((k : Int) < (l.length : Int))) | 4 => v = .bool (decide ((k : Int) < (l.length : Int))) | 5 => v = .slice A l.length c | 6 => v = vi k | 7 => v = .pointer (some ⟨sb, so + k * 3, none⟩) | 8 => v = .pointer (some ⟨sb, so + k * 3 + 0, none⟩) | 9 => v = vi lo | 10 => v = vi p | 11 => v = .bool (decide (lo ≤ p)) | 12 => v = .bool (decide (lo ≤ p)) | _ => True) ix_ v G → (fun (ix_ : Nat) (v : Value) (G : GH) => match ix_ with | 0 => v = vi k | 1 => v = .slice A l.length c | 2 => v = vi l.length | 3 => v = .bool (decide ((k : Int) < (l.length : Int))) | 4 => v = .bool (decide ((k : Int) < (l.length : Int))) | 5 => v = .slice A l.length c | 6 => v = vi k | 7 => v = .pointer (some ⟨sb, so + k * 3, none⟩) | 8 => v = .pointer (some ⟨sb, so + k * 3 + 0, none⟩) | 9 => v = vi lo | 10 => v = vi p | 11 => v = .bool (decide (lo ≤ p)) | 12 => v = .bool (decide (lo ≤ p)) | _ => True) ix_ v G' := by
      intro ix_ v G G' hm h
      match ix_, h with
      | 0, h => exact h
      | 1, h => exact h
      | 2, h => exact h
      | 3, h => exact h
      | 4, h => exact h
      | 5, h => exact h
      | 6, h => exact h
      | 7, h => exact h
      | 8, h => exact h
      | 9, h => exact h
      | 10, h => exact h
      | 11, h => exact h
      | 12, h => exact h
      | _ + 13, h => exact trivial
    refine c_drawI (hmxb) [[], [], [1], [0, 1, 2], [0, 1, 2, 3], [0, 1, 2, 3, 4], [0, 1, 2, 3, 4], [0, 1, 2, 3, 4, 5, 6], [0, 1, 2, 3, 4, 5, 6, 7], [0, 1, 2, 3, 4, 5, 6, 7, 8], [0, 1, 2, 3, 4], [0, 1, 2, 3, 4, 5, 6, 7, 8, 9, 10], [0, 1, 2, 3, 4, 5, 6, 7, 8, 9, 10, 11]] [] (by kernel_rfl) (by kernel_rfl) (fun (ix_ : Nat) (v : Value) (G : GH) => match ix_ with | 0 => v = vi k | 1 => v = .slice A l.length c | 2 => v = vi l.length | 3 => v = .bool (decide ((k : Int) < (l.length : Int))) | 4 => v = .bool (decide ((k : Int) < (l.length : Int))) | 5 => v = .slice A l.length c | 6 => v = vi k | 7 => v = .pointer (some ⟨sb, so + k * 3, none⟩) | 8 => v = .pointer (some ⟨sb, so + k * 3 + 0, none⟩) | 9 => v = vi lo | 10 => v = vi p | 11 => v = .bool (decide (lo ≤ p)) | 12 => v = .bool (decide (lo ≤ p)) | _ => True) hprm6 H ?_ ?_
    · clear H; refine (allI_cons ?_ (allI_cons ?_ (allI_cons ?_ (allI_cons ?_ (allI_cons ?_ (allI_cons ?_ (allI_cons ?_ (allI_cons ?_ (allI_cons ?_ (allI_cons ?_ (allI_cons ?_ (allI_cons ?_ (allI_cons ?_ allI_nil)))))))))))))
      · intro Sd_ a w G1 _ hSi hc hG HT hv; have H := HT; clear hSi
        have Hb := H.full; have H := Hb; clear hc
        refine s_move H wn rfl rfl ?_; clear H; intro a H
        refine wl_nil ⟨rfl, ?_⟩
        exact draw_val (by kernel_rfl) hprm6 rfl rfl HT Hb hG hv (fun _ _ h => h) (rfl) H
      · intro Sd_ a w G1 _ hSi hc hG HT hv; have H := HT; clear hSi
        have Hb := H.full; have H := Hb; clear hc
        refine s_load ty128cls H wn rfl (H.hp.gcell (gcell_mono hG q2)) rfl ?_; clear H; intro a H
        refine wl_nil ⟨rfl, ?_⟩
        exact draw_val (by kernel_rfl) hprm6 rfl rfl HT Hb hG hv (fun _ _ h => h) (rfl) H
      · intro Sd_ a w G1 _ hSi hc hG HT hv; have H := HT; clear hSi
        obtain ⟨u21, hu21, hp21⟩ := hv 1 21 (hc 1 (by decide)) rfl
        obtain rfl : u21 = .slice A l.length c := hp21
        have H := H.addS hu21
        have Hb := H.full; have H := Hb; clear hc
        refine s_len un128cls H wn rfl rfl ?_; clear H; intro a H
        refine wl_nil ⟨rfl, ?_⟩
        exact draw_val (by kernel_rfl) hprm6 rfl rfl HT Hb hG hv (fun _ _ h => h) (rfl) H
      · intro Sd_ a w G1 _ hSi hc hG HT hv; have H := HT; clear hSi
        obtain ⟨u20, hu20, hp20⟩ := hv 0 20 (hc 0 (by decide)) rfl
        obtain rfl : u20 = vi k := hp20
        have H := H.addS hu20
        obtain ⟨u22, hu22, hp22⟩ := hv 2 22 (hc 2 (by decide)) rfl
        obtain rfl : u22 = vi l.length := hp22
        have H := H.addS hu22
        have Hb := H.full; have H := Hb; clear hc
        refine s_cmp H wn rfl rfl rfl rfl ?_; clear H; intro a H
        refine wl_nil ⟨rfl, ?_⟩
        exact draw_val (by kernel_rfl) hprm6 rfl rfl HT Hb hG hv (fun _ _ h => h) (rfl) H
      · intro Sd_ a w G1 _ hSi hc hG HT hv; have H := HT; clear hSi
        obtain ⟨u23, hu23, hp23⟩ := hv 3 23 (hc 3 (by decide)) rfl
        obtain rfl : u23 = .bool (decide ((k : Int) < (l.length : Int))) := hp23
        have H := H.addS hu23
        have Hb := H.full; have H := Hb; clear hc
        refine s_move H wn rfl rfl ?_; clear H; intro a H
        refine wl_nil ⟨rfl, ?_⟩
        exact draw_val (by kernel_rfl) hprm6 rfl rfl HT Hb hG hv (fun _ _ h => h) (rfl) H
      · intro Sd_ a w G1 _ hSi hc hG HT hv; have H := HT; clear hSi
        obtain ⟨u24, hu24, hp24⟩ := hv 4 24 (hc 4 (by decide)) rfl
        obtain rfl : u24 = .bool (decide ((k : Int) < (l.length : Int))) := hp24
        have H := H.addS hu24
        have Hb := H.full; have H := Hb; clear hc
        refine s_load ty128cls H (wg H rfl rfl (decide_eq_true c0)) rfl (H.hp.gcell (gcell_mono hG q2)) rfl ?_; clear H; intro a H
        refine wl_nil ⟨rfl, ?_⟩
        exact draw_val (by kernel_rfl) hprm6 rfl rfl HT Hb hG hv (fun _ _ h => h) (rfl) H
      · intro Sd_ a w G1 _ hSi hc hG HT hv; have H := HT; clear hSi
        obtain ⟨u24, hu24, hp24⟩ := hv 4 24 (hc 4 (by decide)) rfl
        obtain rfl : u24 = .bool (decide ((k : Int) < (l.length : Int))) := hp24
        have H := H.addS hu24
        have Hb := H.full; have H := Hb; clear hc
        refine s_move H (wg H rfl rfl (decide_eq_true c0)) rfl rfl ?_; clear H; intro a H
        refine wl_nil ⟨rfl, ?_⟩
        exact draw_val (by kernel_rfl) hprm6 rfl rfl HT Hb hG hv (fun _ _ h => h) (rfl) H
      · intro Sd_ a w G1 _ hSi hc hG HT hv; have H := HT; clear hSi
        obtain ⟨u25, hu25, hp25⟩ := hv 5 25 (hc 5 (by decide)) rfl
        obtain rfl : u25 = .slice A l.length c := hp25
        have H := H.addS hu25
        obtain ⟨u26, hu26, hp26⟩ := hv 6 26 (hc 6 (by decide)) rfl
        obtain rfl : u26 = vi k := hp26
        have H := H.addS hu26
        obtain ⟨u24, hu24, hp24⟩ := hv 4 24 (hc 4 (by decide)) rfl
        obtain rfl : u24 = .bool (decide ((k : Int) < (l.length : Int))) := hp24
        have H := H.addS hu24
        have Hb := H.full; have H := Hb; clear hc
        obtain ⟨rfl, hx1, hx2, hx3, hx4⟩ := hx (by omega)
        refine s_index un128cls ty138cls k H (wg H rfl rfl (decide_eq_true c0)) rfl rfl rfl (by omega) rfl ?_; clear H; intro a H
        refine wl_nil ⟨rfl, ?_⟩
        exact draw_val (by kernel_rfl) hprm6 rfl rfl HT Hb hG hv (fun _ _ h => h) (rfl) H
      · intro Sd_ a w G1 _ hSi hc hG HT hv; have H := HT; clear hSi
        obtain ⟨u27, hu27, hp27⟩ := hv 7 27 (hc 7 (by decide)) rfl
        obtain rfl : u27 = .pointer (some ⟨sb, so + k * 3, none⟩) := hp27
        have H := H.addS hu27
        obtain ⟨u24, hu24, hp24⟩ := hv 4 24 (hc 4 (by decide)) rfl
        obtain rfl : u24 = .bool (decide ((k : Int) < (l.length : Int))) := hp24
        have H := H.addS hu24
        have Hb := H.full; have H := Hb; clear hc
        refine s_field fd138_0cls H (wg H rfl rfl (decide_eq_true c0)) rfl rfl ?_; clear H; intro a H
        refine wl_nil ⟨rfl, ?_⟩
        exact draw_val (by kernel_rfl) hprm6 rfl rfl HT Hb hG hv (fun _ _ h => h) (rfl) H
      · intro Sd_ a w G1 _ hSi hc hG HT hv; have H := HT; clear hSi
        obtain ⟨u28, hu28, hp28⟩ := hv 8 28 (hc 8 (by decide)) rfl
        obtain rfl : u28 = .pointer (some ⟨sb, so + k * 3 + 0, none⟩) := hp28
        have H := H.addS hu28
        obtain ⟨u24, hu24, hp24⟩ := hv 4 24 (hc 4 (by decide)) rfl
        obtain rfl : u24 = .bool (decide ((k : Int) < (l.length : Int))) := hp24
        have H := H.addS hu24
        have Hb := H.full; have H := Hb; clear hc
        obtain ⟨rfl, hx1, hx2, hx3, hx4⟩ := hx (by omega)
        refine s_load ty3cls H (wg H rfl rfl (decide_eq_true c0)) rfl (H.hp.gcell (gcell_mono hG hx3)) rfl ?_; clear H; intro a H
        refine wl_nil ⟨rfl, ?_⟩
        exact draw_val (by kernel_rfl) hprm6 rfl rfl HT Hb hG hv (fun _ _ h => h) (rfl) H
      · intro Sd_ a w G1 _ hSi hc hG HT hv; have H := HT; clear hSi
        obtain ⟨u24, hu24, hp24⟩ := hv 4 24 (hc 4 (by decide)) rfl
        obtain rfl : u24 = .bool (decide ((k : Int) < (l.length : Int))) := hp24
        have H := H.addS hu24
        have Hb := H.full; have H := Hb; clear hc
        refine s_load ty3cls H (wg H rfl rfl (decide_eq_true c0)) rfl (H.hp.gcell (gcell_mono hG q3)) rfl ?_; clear H; intro a H
        refine wl_nil ⟨rfl, ?_⟩
        exact draw_val (by kernel_rfl) hprm6 rfl rfl HT Hb hG hv (fun _ _ h => h) (rfl) H
      · intro Sd_ a w G1 _ hSi hc hG HT hv; have H := HT; clear hSi
        obtain ⟨u29, hu29, hp29⟩ := hv 9 29 (hc 9 (by decide)) rfl
        obtain rfl : u29 = vi lo := hp29
        have H := H.addS hu29
        obtain ⟨u30, hu30, hp30⟩ := hv 10 30 (hc 10 (by decide)) rfl
        obtain rfl : u30 = vi p := hp30
        have H := H.addS hu30
        obtain ⟨u24, hu24, hp24⟩ := hv 4 24 (hc 4 (by decide)) rfl
        obtain rfl : u24 = .bool (decide ((k : Int) < (l.length : Int))) := hp24
        have H := H.addS hu24
        have Hb := H.full; have H := Hb; clear hc
        refine s_cmp H (wg H rfl rfl (decide_eq_true c0)) rfl rfl rfl rfl ?_; clear H; intro a H
        refine wl_nil ⟨rfl, ?_⟩
        exact draw_val (by kernel_rfl) hprm6 rfl rfl HT Hb hG hv (fun _ _ h => h) (rfl) H
      intro Sd_ a w G1 _ hSi hc hG HT hv; have H := HT; clear hSi
      obtain ⟨u24, hu24, hp24⟩ := hv 4 24 (hc 4 (by decide)) rfl
      obtain rfl : u24 = .bool (decide ((k : Int) < (l.length : Int))) := hp24
      have H := H.addS hu24
      obtain ⟨u31, hu31, hp31⟩ := hv 11 31 (hc 11 (by decide)) rfl
      obtain rfl : u31 = .bool (decide (lo ≤ p)) := hp31
      have H := H.addS hu31
      have Hb := H.full; have H := Hb; clear hc
      refine s_pick_t H wn rfl (decide_eq_true c0) rfl rfl ?_; clear H; intro a H
      refine wl_nil ⟨rfl, ?_⟩
      exact draw_val (by kernel_rfl) hprm6 rfl rfl HT Hb hG hv (fun _ _ h => h) (rfl) H
    clear H; intro a w G hGm6 H hv
    obtain ⟨u32, hu32, hp32⟩ := hv 12 32 (by decide) rfl
    obtain rfl : u32 = .bool (decide (lo ≤ p)) := hp32
    have H := H.addS hu32
    clear hv
    refine wl_nil ⟨rfl, ?_⟩
    refine hK16 _ _ ?_; clear hK16
    refine c_cond_f H rfl (decide_eq_false c1) ?_
    refine c_skip ?_
    refine hK15 _ _ ?_; clear hK15
    refine c_seq (fun _ hK18 => ?_)
    refine c_region ?_
    refine s_assign H wn rfl rfl ?_; clear H; intro a H
    refine wl_nil ?_
    refine hK18 _ _ ?_; clear hK18
    refine c_ret ?_
    refine (leave1 H Tryd.results65 (.cons (rv_tmp H rfl) .nil) ?_).1
    have hkl := fun (h : k < l.length) => List.getElem?_eq_getElem h
    exact H.hp.ret (by
      rw [clsOf, if_neg (by omega), ← hk]
      by_cases h : k < l.length
      · obtain ⟨-, hx1, hx2, -, -⟩ := hx h
        rw [hkl h] at hx1 hx2 ⊢
        simp only [Option.map_some, Option.some.injEq] at hx1 hx2
        dsimp only
        rw [hx1, hx2]
        first | rw [if_pos c1] | rw [if_neg c1] | exact absurd h (by omega)
      rw [List.getElem?_eq_none (by omega)] <;> first | rfl | exact absurd c0 (by omega))
  skip
  have hprm6 : ∀ (ix_ : Nat) (v : Value) (G G' : GH), (∀ k o, G k = some o → G' k = some o) → (fun (ix_ : Nat) (v : Value) (G : GH) => match ix_ with | 0 => v = vi k | 1 => v = .slice A l.length c | 2 => v = vi l.length | 3 => v = .bool (decide ((k : Int) < (l.length : Int))) | 4 => v = .bool (decide ((k : Int) < (l.length : Int))) | 5 => v = undef | 6 => v = undef | 7 => v = undef | 8 => v = undef | 9 => v = undef | 10 => v = undef | 11 => v = undef | 12 => v = .bool false | _ => True) ix_ v G → (fun (ix_ : Nat) (v : Value) (G : GH) => match ix_ with | 0 => v = vi k | 1 => v = .slice A l.length c | 2 => v = vi l.length | 3 => v = .bool (decide ((k : Int) < (l.length : Int))) | 4 => v = .bool (decide ((k : Int) < (l.length : Int))) | 5 => v = undef | 6 => v = undef | 7 => v = undef | 8 => v = undef | 9 => v = undef | 10 => v = undef | 11 => v = undef | 12 => v = .bool false | _ => True) ix_ v G' := by
    intro ix_ v G G' hm h
    match ix_, h with
    | 0, h => exact h
    | 1, h => exact h
    | 2, h => exact h
    | 3, h => exact h
    | 4, h => exact h
    | 5, h => exact h
    | 6, h => exact h
    | 7, h => exact h
    | 8, h => exact h
    | 9, h => exact h
    | 10, h => exact h
    | 11, h => exact h
    | 12, h => exact h
    | _ + 13, h => exact trivial
  refine c_drawI (hmxb) [[], [], [1], [0, 1, 2], [0, 1, 2, 3], [0, 1, 2, 3, 4], [0, 1, 2, 3, 4], [0, 1, 2, 3, 4, 5, 6], [0, 1, 2, 3, 4, 5, 6, 7], [0, 1, 2, 3, 4, 5, 6, 7, 8], [0, 1, 2, 3, 4], [0, 1, 2, 3, 4, 5, 6, 7, 8, 9, 10], [0, 1, 2, 3, 4, 5, 6, 7, 8, 9, 10, 11]] [] (by kernel_rfl) (by kernel_rfl) (fun (ix_ : Nat) (v : Value) (G : GH) => match ix_ with | 0 => v = vi k | 1 => v = .slice A l.length c | 2 => v = vi l.length | 3 => v = .bool (decide ((k : Int) < (l.length : Int))) | 4 => v = .bool (decide ((k : Int) < (l.length : Int))) | 5 => v = undef | 6 => v = undef | 7 => v = undef | 8 => v = undef | 9 => v = undef | 10 => v = undef | 11 => v = undef | 12 => v = .bool false | _ => True) hprm6 H ?_ ?_
  · clear H; refine (allI_cons ?_ (allI_cons ?_ (allI_cons ?_ (allI_cons ?_ (allI_cons ?_ (allI_cons ?_ (allI_cons ?_ (allI_cons ?_ (allI_cons ?_ (allI_cons ?_ (allI_cons ?_ (allI_cons ?_ (allI_cons ?_ allI_nil)))))))))))))
    · intro Sd_ a w G1 _ hSi hc hG HT hv; have H := HT; clear hSi
      have Hb := H.full; have H := Hb; clear hc
      refine s_move H wn rfl rfl ?_; clear H; intro a H
      refine wl_nil ⟨rfl, ?_⟩
      exact draw_val (by kernel_rfl) hprm6 rfl rfl HT Hb hG hv (fun _ _ h => h) (rfl) H
    · intro Sd_ a w G1 _ hSi hc hG HT hv; have H := HT; clear hSi
      have Hb := H.full; have H := Hb; clear hc
      refine s_load ty128cls H wn rfl (H.hp.gcell (gcell_mono hG q2)) rfl ?_; clear H; intro a H
      refine wl_nil ⟨rfl, ?_⟩
      exact draw_val (by kernel_rfl) hprm6 rfl rfl HT Hb hG hv (fun _ _ h => h) (rfl) H
    · intro Sd_ a w G1 _ hSi hc hG HT hv; have H := HT; clear hSi
      obtain ⟨u21, hu21, hp21⟩ := hv 1 21 (hc 1 (by decide)) rfl
      obtain rfl : u21 = .slice A l.length c := hp21
      have H := H.addS hu21
      have Hb := H.full; have H := Hb; clear hc
      refine s_len un128cls H wn rfl rfl ?_; clear H; intro a H
      refine wl_nil ⟨rfl, ?_⟩
      exact draw_val (by kernel_rfl) hprm6 rfl rfl HT Hb hG hv (fun _ _ h => h) (rfl) H
    · intro Sd_ a w G1 _ hSi hc hG HT hv; have H := HT; clear hSi
      obtain ⟨u20, hu20, hp20⟩ := hv 0 20 (hc 0 (by decide)) rfl
      obtain rfl : u20 = vi k := hp20
      have H := H.addS hu20
      obtain ⟨u22, hu22, hp22⟩ := hv 2 22 (hc 2 (by decide)) rfl
      obtain rfl : u22 = vi l.length := hp22
      have H := H.addS hu22
      have Hb := H.full; have H := Hb; clear hc
      refine s_cmp H wn rfl rfl rfl rfl ?_; clear H; intro a H
      refine wl_nil ⟨rfl, ?_⟩
      exact draw_val (by kernel_rfl) hprm6 rfl rfl HT Hb hG hv (fun _ _ h => h) (rfl) H
    · intro Sd_ a w G1 _ hSi hc hG HT hv; have H := HT; clear hSi
      obtain ⟨u23, hu23, hp23⟩ := hv 3 23 (hc 3 (by decide)) rfl
      obtain rfl : u23 = .bool (decide ((k : Int) < (l.length : Int))) := hp23
      have H := H.addS hu23
      have Hb := H.full; have H := Hb; clear hc
      refine s_move H wn rfl rfl ?_; clear H; intro a H
      refine wl_nil ⟨rfl, ?_⟩
      exact draw_val (by kernel_rfl) hprm6 rfl rfl HT Hb hG hv (fun _ _ h => h) (rfl) H
    · intro Sd_ a w G1 _ hSi hc hG HT hv; have H := HT; clear hSi
      obtain ⟨u24, hu24, hp24⟩ := hv 4 24 (hc 4 (by decide)) rfl
      obtain rfl : u24 = .bool (decide ((k : Int) < (l.length : Int))) := hp24
      have H := H.addS hu24
      have Hb := H.full; have H := Hb; clear hc
      refine s_skip H rfl rfl (decide_eq_false c0) rfl ?_; clear H; intro a H
      refine wl_nil ⟨rfl, ?_⟩
      exact draw_val (by kernel_rfl) hprm6 rfl rfl HT Hb hG hv (fun _ _ h => h) (rfl) H
    · intro Sd_ a w G1 _ hSi hc hG HT hv; have H := HT; clear hSi
      obtain ⟨u24, hu24, hp24⟩ := hv 4 24 (hc 4 (by decide)) rfl
      obtain rfl : u24 = .bool (decide ((k : Int) < (l.length : Int))) := hp24
      have H := H.addS hu24
      have Hb := H.full; have H := Hb; clear hc
      refine s_skip H rfl rfl (decide_eq_false c0) rfl ?_; clear H; intro a H
      refine wl_nil ⟨rfl, ?_⟩
      exact draw_val (by kernel_rfl) hprm6 rfl rfl HT Hb hG hv (fun _ _ h => h) (rfl) H
    · intro Sd_ a w G1 _ hSi hc hG HT hv; have H := HT; clear hSi
      obtain ⟨u25, hu25, hp25⟩ := hv 5 25 (hc 5 (by decide)) rfl
      obtain rfl : u25 = undef := hp25
      have H := H.addS hu25
      obtain ⟨u26, hu26, hp26⟩ := hv 6 26 (hc 6 (by decide)) rfl
      obtain rfl : u26 = undef := hp26
      have H := H.addS hu26
      obtain ⟨u24, hu24, hp24⟩ := hv 4 24 (hc 4 (by decide)) rfl
      obtain rfl : u24 = .bool (decide ((k : Int) < (l.length : Int))) := hp24
      have H := H.addS hu24
      have Hb := H.full; have H := Hb; clear hc
      refine s_skip H rfl rfl (decide_eq_false c0) rfl ?_; clear H; intro a H
      refine wl_nil ⟨rfl, ?_⟩
      exact draw_val (by kernel_rfl) hprm6 rfl rfl HT Hb hG hv (fun _ _ h => h) (rfl) H
    · intro Sd_ a w G1 _ hSi hc hG HT hv; have H := HT; clear hSi
      obtain ⟨u27, hu27, hp27⟩ := hv 7 27 (hc 7 (by decide)) rfl
      obtain rfl : u27 = undef := hp27
      have H := H.addS hu27
      obtain ⟨u24, hu24, hp24⟩ := hv 4 24 (hc 4 (by decide)) rfl
      obtain rfl : u24 = .bool (decide ((k : Int) < (l.length : Int))) := hp24
      have H := H.addS hu24
      have Hb := H.full; have H := Hb; clear hc
      refine s_skip H rfl rfl (decide_eq_false c0) rfl ?_; clear H; intro a H
      refine wl_nil ⟨rfl, ?_⟩
      exact draw_val (by kernel_rfl) hprm6 rfl rfl HT Hb hG hv (fun _ _ h => h) (rfl) H
    · intro Sd_ a w G1 _ hSi hc hG HT hv; have H := HT; clear hSi
      obtain ⟨u28, hu28, hp28⟩ := hv 8 28 (hc 8 (by decide)) rfl
      obtain rfl : u28 = undef := hp28
      have H := H.addS hu28
      obtain ⟨u24, hu24, hp24⟩ := hv 4 24 (hc 4 (by decide)) rfl
      obtain rfl : u24 = .bool (decide ((k : Int) < (l.length : Int))) := hp24
      have H := H.addS hu24
      have Hb := H.full; have H := Hb; clear hc
      refine s_skip H rfl rfl (decide_eq_false c0) rfl ?_; clear H; intro a H
      refine wl_nil ⟨rfl, ?_⟩
      exact draw_val (by kernel_rfl) hprm6 rfl rfl HT Hb hG hv (fun _ _ h => h) (rfl) H
    · intro Sd_ a w G1 _ hSi hc hG HT hv; have H := HT; clear hSi
      obtain ⟨u24, hu24, hp24⟩ := hv 4 24 (hc 4 (by decide)) rfl
      obtain rfl : u24 = .bool (decide ((k : Int) < (l.length : Int))) := hp24
      have H := H.addS hu24
      have Hb := H.full; have H := Hb; clear hc
      refine s_skip H rfl rfl (decide_eq_false c0) rfl ?_; clear H; intro a H
      refine wl_nil ⟨rfl, ?_⟩
      exact draw_val (by kernel_rfl) hprm6 rfl rfl HT Hb hG hv (fun _ _ h => h) (rfl) H
    · intro Sd_ a w G1 _ hSi hc hG HT hv; have H := HT; clear hSi
      obtain ⟨u29, hu29, hp29⟩ := hv 9 29 (hc 9 (by decide)) rfl
      obtain rfl : u29 = undef := hp29
      have H := H.addS hu29
      obtain ⟨u30, hu30, hp30⟩ := hv 10 30 (hc 10 (by decide)) rfl
      obtain rfl : u30 = undef := hp30
      have H := H.addS hu30
      obtain ⟨u24, hu24, hp24⟩ := hv 4 24 (hc 4 (by decide)) rfl
      obtain rfl : u24 = .bool (decide ((k : Int) < (l.length : Int))) := hp24
      have H := H.addS hu24
      have Hb := H.full; have H := Hb; clear hc
      refine s_skip H rfl rfl (decide_eq_false c0) rfl ?_; clear H; intro a H
      refine wl_nil ⟨rfl, ?_⟩
      exact draw_val (by kernel_rfl) hprm6 rfl rfl HT Hb hG hv (fun _ _ h => h) (rfl) H
    intro Sd_ a w G1 _ hSi hc hG HT hv; have H := HT; clear hSi
    obtain ⟨u24, hu24, hp24⟩ := hv 4 24 (hc 4 (by decide)) rfl
    obtain rfl : u24 = .bool (decide ((k : Int) < (l.length : Int))) := hp24
    have H := H.addS hu24
    obtain ⟨u31, hu31, hp31⟩ := hv 11 31 (hc 11 (by decide)) rfl
    obtain rfl : u31 = undef := hp31
    have H := H.addS hu31
    have Hb := H.full; have H := Hb; clear hc
    refine s_pick_f H wn rfl (decide_eq_false c0) rfl rfl ?_; clear H; intro a H
    refine wl_nil ⟨rfl, ?_⟩
    exact draw_val (by kernel_rfl) hprm6 rfl rfl HT Hb hG hv (fun _ _ h => h) (rfl) H
  clear H; intro a w G hGm6 H hv
  obtain ⟨u32, hu32, hp32⟩ := hv 12 32 (by decide) rfl
  obtain rfl : u32 = .bool false := hp32
  have H := H.addS hu32
  clear hv
  refine wl_nil ⟨rfl, ?_⟩
  refine hK16 _ _ ?_; clear hK16
  refine c_cond_f H rfl rfl ?_
  refine c_skip ?_
  refine hK15 _ _ ?_; clear hK15
  refine c_seq (fun _ hK19 => ?_)
  refine c_region ?_
  refine s_assign H wn rfl rfl ?_; clear H; intro a H
  refine wl_nil ?_
  refine hK19 _ _ ?_; clear hK19
  refine c_ret ?_
  refine (leave1 H Tryd.results65 (.cons (rv_tmp H rfl) .nil) ?_).1
  have hkl := fun (h : k < l.length) => List.getElem?_eq_getElem h
  exact H.hp.ret (by
    rw [clsOf, if_neg (by omega), ← hk]
    by_cases h : k < l.length
    · obtain ⟨-, hx1, hx2, -, -⟩ := hx h
      rw [hkl h] at hx1 hx2 ⊢
      simp only [Option.map_some, Option.some.injEq] at hx1 hx2
      dsimp only
      rw [hx1, hx2]
      first | rw [if_pos c1] | rw [if_neg c1] | exact absurd h (by omega)
    rw [List.getElem?_eq_none (by omega)] <;> first | rfl | exact absurd c0 (by omega))
end Go.Proofs.YtpmcdlhhfbobfaaDoor
