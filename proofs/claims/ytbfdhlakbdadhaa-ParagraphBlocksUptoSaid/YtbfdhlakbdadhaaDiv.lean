/-
  Package run: divide, where no item is cut.
-/
import Derived.Test.YtbfdhlakbdadhaaIt
import Derived.Test.YtbfdhlakbdadhaaDy
namespace Go.Proofs.Ytbfdhlakbdadhaa
open Go.RowKit
theorem un28div : Try.prog.underlying 28 = some (.slice 47) := by kernel_rfl
theorem ty28div : Ty Try.prog 28 1 24 [.slice none 0 0] false := ⟨by kernel_rfl, by kernel_rfl⟩
theorem ty47div : Ty Try.prog 47 11 176 [.int .i64 0, .int .i64 0, .int .i64 0, .string ⟨#[]⟩, .slice none 0 0, .int .i64 0, .int .i64 0, .slice none 0 0, .slice none 0 0, .slice none 0 0, .slice none 0 0] true := ⟨by kernel_rfl, by kernel_rfl⟩
theorem en88div : ∀ args w, (callFunc 88 args).run Try.prog w = .ok (.enter 88 args) w := enters Try.func88 rfl (by kernel_rfl)
theorem en96div : ∀ args w, (callFunc 96 args).run Try.prog w = .ok (.enter 96 args) w := enters Try.func96 rfl (by kernel_rfl)
theorem en29div : ∀ args w, (callFunc 29 args).run Try.prog w = .ok (.enter 29 args) w := enters Try.func29 rfl (by kernel_rfl)
theorem ty3div : Ty Try.prog 3 1 8 [.int .i64 0] false := ⟨by kernel_rfl, by kernel_rfl⟩
def fitA (t : Int) (a : Nat × ItemD) : Bool := decide ((a.1 : Int) + unitsS a.2 ≤ t)
def lA (t : Int) (A : List (Nat × ItemD)) : List ItemD := (A.filter (fitA t)).map (·.2)
def rA (t : Int) (A : List (Nat × ItemD)) : List ItemD := (A.filter fun a => !fitA t a).map (·.2)
theorem lA_yes {t : Int} {A : List (Nat × ItemD)} {k : Nat} (hk : k < A.length) (h : fitA t A[k] = true) : lA t (A.take (k + 1)) = lA t (A.take k) ++ [A[k].2] ∧ rA t (A.take (k + 1)) = rA t (A.take k) := by
  rw [List.take_succ_eq_append_getElem hk]; simp only [lA, rA, List.filter_append, List.map_append]; simp [h]
theorem lA_no {t : Int} {A : List (Nat × ItemD)} {k : Nat} (hk : k < A.length) (h : fitA t A[k] = false) : lA t (A.take (k + 1)) = lA t (A.take k) ∧ rA t (A.take (k + 1)) = rA t (A.take k) ++ [A[k].2] := by
  rw [List.take_succ_eq_append_getElem hk]; simp only [lA, rA, List.filter_append, List.map_append]; simp [h]
theorem lA_len (t : Int) (A : List (Nat × ItemD)) : (lA t A).length ≤ A.length := by simp only [lA, List.length_map]; exact List.length_filter_le _ _
theorem rA_len (t : Int) (A : List (Nat × ItemD)) : (rA t A).length ≤ A.length := by simp only [rA, List.length_map]; exact List.length_filter_le _ _
def leftS (t : Int) (l : List ItemD) : List ItemD := lA t (offs 0 l)
def rightS (t : Int) (l : List ItemD) : List ItemD := rA t (offs 0 l)
theorem offs_mem : ∀ {l : List ItemD} {o : Nat} {a : Nat × ItemD}, a ∈ offs o l → a.2 ∈ l ∧ a.1 + szR a.2.dat ≤ o + zItems l
  | [], _, _, h => by cases h
  | x :: l, o, a, h => by
    rw [offs] at h
    have hu := unitsS_le x
    rcases List.mem_cons.1 h with rfl | h
    · exact ⟨List.mem_cons_self, by simp only [zItems, List.map_cons, szRs]; omega⟩
    · obtain ⟨h1, h2⟩ := offs_mem h
      exact ⟨List.mem_cons_of_mem _ h1, by simp only [zItems, List.map_cons, szRs] at *; omega⟩
theorem divide_spec (G : GH) (w0 : World) (hG : Hold G w0) (l : List ItemD) (t : Int) (v : Value) (hv : RepV G (.sl 11 (l.map ItemD.dat)) v) (hz : zItems l ≤ 1073741824) (hcut : ∀ a ∈ offs 0 l, fitA t a = true ∨ t ≤ a.1) :
    Calls Try.prog 77 #[v, vi t] w0 (Ret w0 G fun u G' => ∃ x y, u = .tuple #[x, y] ∧ RepV G' (.sl 11 ((leftS t l).map ItemD.dat)) x ∧ RepV G' (.sl 11 ((rightS t l).map ItemD.dat)) y) := by
  have hml : 4294967297 ≤ maxLen := by decide
  have hll := zItems_length l
  have hol := offs_len l 0
  obtain ⟨A, hA⟩ : ∃ A, A = offs 0 l := ⟨_, rfl⟩
  refine enter (N := 74) (T := [(0, _), (1, _)]) (F := fun k => k < w0.heap.size) (L := []) Try.func77 rfl Try.ntmps77 rfl rfl hG (fun _ h => h) (fun _ h => by cases h) (fun _ h => by cases h) (fun _ h => by cases h) List.Pairwise.nil ?_
  intro a H
  refine c_seq (fun _ hK1 => ?_)
  refine c_region ?_
  refine s_box (cs := [_]) H wn rfl rfl rfl ?_; clear H; intro b3 a w hb3 H
  refine s_alloc ty28div H wn rfl ?_; clear H; intro b4 a w hb4 H
  refine s_alloc ty28div H wn rfl ?_; clear H; intro b5 a w hb5 H
  refine wl_nil ?_
  refine hK1 _ _ ?_; clear hK1
  refine c_seq (fun _ hK2 => ?_)
  refine c_seq (fun _ hK3 => ?_)
  refine c_region ?_
  refine s_move H wn rfl rfl ?_; clear H; intro a H
  refine s_call en88div H wn rfl (items_spec _ _ H.hp.ro l v hv (by omega)) rfl ?_; clear H
  rintro v14 G14 a w ⟨bd, rfl, hit⟩ hm14 H
  rw [← hA] at hit hcut hol
  refine wl_nil ?_
  refine hK3 _ _ ?_; clear hK3
  refine c_block ?_
  skip
  refine c_rangeJ (ι := Value × Value × List Value × List Value × OL × OL) (κ := Empty) (Lc := [(_, _)]) (fun (k : Nat) (gh : Value × Value × List Value × List Value × OL × OL) => [(b4, .cells #[gh.1] 28 (0, 0)), (b5, .cells #[gh.2.1] 28 (0, 0))]) (fun (k : Nat) (gh : Value × Value × List Value × List Value × OL × OL) => gh.2.2.2.2.1 ++ gh.2.2.2.2.2) (fun (k : Nat) (gh : Value × Value × List Value × List Value × OL × OL) (g : GH) => IsRow 47 11 gh.1 (lA t (A.take k)).length gh.2.2.1 gh.2.2.2.2.1 ∧ RepCat g 11 ((lA t (A.take k)).map ItemD.dat) gh.2.2.1 ∧ IsRow 47 11 gh.2.1 (rA t (A.take k)).length gh.2.2.2.1 gh.2.2.2.2.2 ∧ RepCat g 11 ((rA t (A.take k)).map ItemD.dat) gh.2.2.2.1) (fun x => x.elim) (fun x => x.elim) (fun x => x.elim) (fun x => x.elim) ((.slice none 0 0, .slice none 0 0, [], [], [], [])) (by exact (H.nilT (A := [_, _, _])).pickT (Pl := [_, _, _]) (Pl' := [_, _, _]) [2, 1, 0] (by decide) rfl) rfl en96div (hit) (fun _ _ h => h) rfl (fun k args g h => by obtain ⟨_, _, rfl, _⟩ := it_at h; rfl) (fun k i G G' hm h => ⟨h.1, h.2.1.mono hm, h.2.2.1, h.2.2.2.mono hm⟩) (fun x => x.elim) (⟨IsRow.nil, RepCat.nil, IsRow.nil, RepCat.nil⟩) ?_ ?_ ?_
  · clear H; intro l2 rdy bsy bk k args gh G2 w2 F2 B2 a hk2 hm2 hI hbeg2 hnext2 hstop2 H
    obtain ⟨vl, vr, xl, xr, Ll, Lr⟩ := gh; dsimp only at hI H
    obtain ⟨hk, cs, rfl, hcs⟩ := it_at hk2
    obtain ⟨-, hza⟩ := offs_mem (l := l) (o := 0) (a := A[k]) (by rw [← hA]; exact List.getElem_mem hk)
    have hzi := zItem_eq A[k].2
    have hun := unitsS_le A[k].2
    have hlk := lA_len t (A.take k)
    have hrk := rA_len t (A.take k)
    rw [List.length_take] at hlk hrk
    obtain ⟨pA, pn, pc, dA, dn, dc, yA, yn, yc, fA, fn, fc, rA_, rn, rc, rfl, hh, hf, hr⟩ := hcs.item
    dsimp only [asg, List.cons_append, List.nil_append] at H
    obtain ⟨hrl, hcl, hrr, hcr⟩ := hI
    refine c_seq (fun _ hK4 => ?_)
    refine c_region ?_
    refine s_assign H wn rfl rfl ?_; clear H; intro a H
    refine wl_nil ?_
    refine hK4 _ _ ?_; clear hK4
    refine c_region ?_
    refine s_alloc ty47div H wn rfl ?_; clear H; intro b7 a w hb7 H
    refine s_store ty47div 0 (vs := [_, _, _, _, _, _, _, _, _, _, _]) _ H wn rfl rfl rfl rfl rfl rfl rfl rfl ?_; clear H; intro w H; dsimp only [List.set, setRow] at H
    refine wl_nil ?_
    refine hbeg2 _ _ _ _ _ _ (by exact H.pickT (Pl := [_, _, _, _, _]) (Pl' := [_, _, _, _, _]) [1, 0, 2, 3, 4] (by decide) rfl) ?_; clear H; intro w H
    refine c_block ?_
    refine c_seq (fun _ hK5 => ?_)
    refine c_region ?_
    refine s_loada ty47div (cs := [_, _, _, _, _, _, _, _, _, _, _]) H wn rfl rfl (H.hp.ocells 1 rfl rfl) rfl ?_; clear H; intro a H
    refine s_call en29div H wn rfl (units_spec _ _ H.hp.ro A[k].2 _ _ _ _ _ _ _ _ _ (by omega)) rfl ?_; clear H
    rintro v19 _ a w ⟨rfl, rfl⟩ - H
    refine s_move H wn rfl rfl ?_; clear H; intro a H
    refine s_extract H wn rfl rfl rfl ?_; clear H; intro a H
    refine s_extract H wn rfl rfl rfl ?_; clear H; intro a H
    refine s_assign H wn rfl rfl ?_; clear H; intro a H
    refine s_assign H wn rfl rfl ?_; clear H; intro a H
    refine wl_nil ?_
    refine hK5 _ _ ?_; clear hK5
    refine c_block ?_
    refine c_seq (fun _ hK6 => ?_)
    refine c_region ?_
    refine s_move H wn rfl rfl ?_; clear H; intro a H
    refine s_move H wn rfl rfl ?_; clear H; intro a H
    refine s_add _ H wn rfl rfl rfl (by omega) (by omega) rfl ?_; clear H; intro a H
    refine s_load ty3div H wn rfl (H.hp.ocell 2 rfl rfl) rfl ?_; clear H; intro a H
    refine s_cmp H wn rfl rfl rfl rfl ?_; clear H; intro a H
    refine s_assign H wn rfl rfl ?_; clear H; intro a H
    refine wl_nil ?_
    refine hK6 _ _ ?_; clear hK6
    refine c_cond H rfl ?_ ?_
    · intro h50
      try have p50 := of_decide_eq_true h50
      have hfit : fitA t A[k] = true := h50
      obtain ⟨e1, e2⟩ := lA_yes hk hfit
      obtain ⟨vA, vc, rfl, -, -⟩ := hrl.shape
      have H := H.perm (pm_out [_, _, _, _, _] bk Ll Lr)
      refine c_app1 (i0 := 3) (i1 := 1) hmx (by kernel_rfl) un28div ty28div ty47div rfl rfl rfl rfl rfl (by kernel_rfl) rfl (by decide) H rfl rfl rfl rfl rfl rfl hrl (by omega) (by omega) ?_
      clear H; intro vl Ll G10 a w hm10 hrl10 H
      have H : St _ _ _ _ _ _ ([_, _, _, _, _] ++ (bk ++ (Ll ++ Lr))) _ _ _ := H.perm (pm_out [_, _, _, _, _] bk Ll Lr).symm
      dsimp only [List.cons_append, List.nil_append] at H
      obtain ⟨xl, hxl⟩ : ∃ x, x = xl ++ [vi A[k].2.kind, vi A[k].2.code, vi A[k].2.id, .string A[k].2.text, .slice pA pn pc, vi A[k].2.head.marks.ins, vi A[k].2.head.marks.move, .slice dA dn dc, .slice yA yn yc, .slice fA fn fc, .slice rA_ rn rc] := ⟨_, rfl⟩
      rw [← hxl] at hrl10
      have hI : IsRow 47 11 vl (lA t (A.take (k + 1))).length xl Ll ∧ RepCat G10 11 ((lA t (A.take (k + 1))).map ItemD.dat) xl ∧ IsRow 47 11 vr (rA t (A.take (k + 1))).length xr Lr ∧ RepCat G10 11 ((rA t (A.take (k + 1))).map ItemD.dat) xr := by
        rw [e1, e2, List.length_append, List.map_append]
        exact ⟨hrl10, by rw [hxl]; exact (hcl.mono hm10).snoc (hcs.mono hm10) rfl, hrr, hcr.mono hm10⟩
      refine hnext2 ((vl, vr, xl, xr, Ll, Lr)) _ _ _ _ _ (by exact H.pickT (Pl := [_, _, _, _, _]) (Pl' := [_, _, _, _]) [0, 2, 3, 4] (by decide) rfl) ?_
      exact hI
    · intro h50
      try have p50 := of_decide_eq_false h50
      have hfit : fitA t A[k] = false := h50
      obtain ⟨e1, e2⟩ := lA_no hk hfit
      refine c_seq (fun _ hK7 => ?_)
      refine c_region ?_
      refine s_move H wn rfl rfl ?_; clear H; intro a H
      refine s_load ty3div H wn rfl (H.hp.ocell 2 rfl rfl) rfl ?_; clear H; intro a H
      refine s_cmp H wn rfl rfl rfl rfl ?_; clear H; intro a H
      refine s_assign H wn rfl rfl ?_; clear H; intro a H
      refine wl_nil ?_
      refine hK7 _ _ ?_; clear hK7
      refine c_cond H rfl ?_ ?_
      · intro h62
        try have p62 := of_decide_eq_true h62
        obtain ⟨vA, vc, rfl, -, -⟩ := hrr.shape
        have H := H.cast (pm_in [_, _, _, _, _] bk Ll Lr)
        refine c_app1 (i0 := 4) (i1 := 1) hmx (by kernel_rfl) un28div ty28div ty47div rfl rfl rfl rfl rfl (by kernel_rfl) rfl (by decide) H rfl rfl rfl rfl rfl rfl hrr (by omega) (by omega) ?_
        clear H; intro vr Lr G10 a w hm10 hrr10 H
        have H : St _ _ _ _ _ _ ([_, _, _, _, _] ++ (bk ++ (Ll ++ Lr))) _ _ _ := H.cast (pm_in [_, _, _, _, _] bk Ll Lr).symm
        dsimp only [List.cons_append, List.nil_append] at H
        obtain ⟨xr, hxr⟩ : ∃ x, x = xr ++ [vi A[k].2.kind, vi A[k].2.code, vi A[k].2.id, .string A[k].2.text, .slice pA pn pc, vi A[k].2.head.marks.ins, vi A[k].2.head.marks.move, .slice dA dn dc, .slice yA yn yc, .slice fA fn fc, .slice rA_ rn rc] := ⟨_, rfl⟩
        rw [← hxr] at hrr10
        have hI : IsRow 47 11 vl (lA t (A.take (k + 1))).length xl Ll ∧ RepCat G10 11 ((lA t (A.take (k + 1))).map ItemD.dat) xl ∧ IsRow 47 11 vr (rA t (A.take (k + 1))).length xr Lr ∧ RepCat G10 11 ((rA t (A.take (k + 1))).map ItemD.dat) xr := by
          rw [e1, e2, List.length_append, List.map_append]
          exact ⟨hrl, hcl.mono hm10, hrr10, by rw [hxr]; exact (hcr.mono hm10).snoc (hcs.mono hm10) rfl⟩
        refine hnext2 ((vl, vr, xl, xr, Ll, Lr)) _ _ _ _ _ (by exact H.pickT (Pl := [_, _, _, _, _]) (Pl' := [_, _, _, _]) [0, 2, 3, 4] (by decide) rfl) ?_
        exact hI
      · intro h62
        try have p62 := of_decide_eq_false h62
        exact absurd (hcut _ (List.getElem_mem hk)) (by rw [hfit]; simp only [Bool.false_eq_true, false_or]; omega)
  · clear H; intro Dk2 gh Gd2 a w hm2 hI H
    obtain ⟨vl, vr, xl, xr, Ll, Lr⟩ := gh; dsimp only at hI H
    dsimp only [List.cons_append, List.nil_append, List.append_nil] at H
    obtain ⟨hrl, hcl, hrr, hcr⟩ := hI
    rw [show A.take (A.map itP).length = A by rw [List.length_map, List.take_length]] at hrl hcl hrr hcr
    obtain ⟨lA0, lc0, rfl, -, -⟩ := hrl.shape
    obtain ⟨rA0, rc0, rfl, -, -⟩ := hrr.shape
    refine hK2 _ _ ?_; clear hK2
    refine c_seq (fun _ hK8 => ?_)
    have hprm13 : ∀ (i : Nat) (v : Value) (G G' : GH), (∀ k o, G k = some o → G' k = some o) → (fun (i : Nat) (v : Value) (G : GH) => match i with | 0 => v = .slice lA0 (lA t A).length lc0 | 1 => v = .slice rA0 (rA t A).length rc0 | _ => True) i v G → (fun (i : Nat) (v : Value) (G : GH) => match i with | 0 => v = .slice lA0 (lA t A).length lc0 | 1 => v = .slice rA0 (rA t A).length rc0 | _ => True) i v G' := by
      intro i v G G' hm h
      match i, h with
      | 0, h => exact h
      | 1, h => exact h
      | 2, h => exact trivial
      | 3, h => exact trivial
      | _ + 4, h => exact trivial
    refine c_drawI (hmx) [[], [], [0], [0, 1, 2]] [] (by kernel_rfl) (by kernel_rfl) (fun (i : Nat) (v : Value) (G : GH) => match i with | 0 => v = .slice lA0 (lA t A).length lc0 | 1 => v = .slice rA0 (rA t A).length rc0 | _ => True) hprm13 H ?_ ?_
    · clear H; refine (allI_cons ?_ (allI_cons ?_ (allI_cons ?_ (allI_cons ?_ allI_nil))))
      · intro S a w G1 _ hSi hc hG HT hv; have H := HT; clear hSi
        have Hb := H.full; have H := Hb; clear hc
        refine s_load ty28div H wn rfl (H.hp.ocell 2 rfl rfl) rfl ?_; clear H; intro a H
        refine wl_nil ⟨rfl, ?_⟩
        exact draw_val (by kernel_rfl) hprm13 rfl rfl HT Hb hG hv (fun _ _ h => h) (rfl) H
      · intro S a w G1 _ hSi hc hG HT hv; have H := HT; clear hSi
        have Hb := H.full; have H := Hb; clear hc
        refine s_load ty28div H wn rfl (H.hp.ocell 3 rfl rfl) rfl ?_; clear H; intro a H
        refine wl_nil ⟨rfl, ?_⟩
        exact draw_val (by kernel_rfl) hprm13 rfl rfl HT Hb hG hv (fun _ _ h => h) (rfl) H
      · intro S a w G1 _ hSi hc hG HT hv; have H := HT; clear hSi
        obtain ⟨u72, hu72, hp72⟩ := hv 0 72 (hc 0 (by decide)) rfl
        obtain rfl : u72 = .slice lA0 (lA t A).length lc0 := hp72
        have H := H.addS hu72
        have Hb := H.full; have H := Hb; clear hc
        refine s_store ty28div 2 (vs := [_]) _ H wn rfl rfl rfl rfl rfl rfl rfl rfl ?_; clear H; intro w H; dsimp only [List.set, setRow] at H
        refine wl_nil ⟨rfl, ?_⟩
        exact draw_unit rfl HT hG hv H
      · intro S a w G1 _ hSi hc hG HT hv; have H := HT; clear hSi
        obtain ⟨u73, hu73, hp73⟩ := hv 1 73 (hc 1 (by decide)) rfl
        obtain rfl : u73 = .slice rA0 (rA t A).length rc0 := hp73
        have H := H.addS hu73
        have Hb := H.full; have H := Hb; clear hc
        refine s_store ty28div 3 (vs := [_]) _ H wn rfl rfl rfl rfl rfl rfl rfl rfl ?_; clear H; intro w H; dsimp only [List.set, setRow] at H
        refine wl_nil ⟨rfl, ?_⟩
        exact draw_unit rfl HT hG hv H
    · clear H; intro a w G hGm13 H hv
      clear hv
      refine wl_nil ⟨rfl, ?_⟩
      refine hK8 _ _ ?_; clear hK8
      refine c_ret ?_
      obtain ⟨G20, hm20, hgr, H⟩ := St.giveRow (Li := [_, _, _, _] ++ Ll) (St.un (A := [_, _, _, _]) H) hrr (rows := (rA t A).map ItemD.dat) (by simp) (hcr.mono hGm13)
      obtain ⟨G21, hm21, hgl, H⟩ := St.giveRow (Li := [_, _, _, _]) H hrl (rows := (lA t A).map ItemD.dat) (by simp) ((hcl.mono hGm13).mono hm20)
      replace hgr := hgr.mono hm21
      refine (leaveM H 0 rfl ?_).1; clear H; intro a w H; dsimp only [List.eraseIdx_cons_succ, List.eraseIdx_cons_zero] at H
      refine (leaveT H Try.results77 (.cons (rv_cell ty28div H rfl (H.hp.ocell 1 rfl rfl)) (.cons (rv_cell ty28div H rfl (H.hp.ocell 2 rfl rfl)) .nil)) ?_).1
      exact H.hp.ret ⟨_, _, rfl, by rw [leftS, ← hA]; exact hgl, by rw [rightS, ← hA]; exact hgr⟩
  · intro Dk x; exact x.elim
end Go.Proofs.Ytbfdhlakbdadhaa
