/-
  Regions that draw the order of their operations, in which several operations turn memory: values first, then whatever the state allows.
-/
import Derived.Test.YtpmcdlhhfbobfaaDoorDr
import Derived.Test.YtpmcdlhhfbobfaaDoorRow
namespace Go.Proofs.YtpmcdlhhfbobfaaDoor
open Go.RowKit
def tailOkY (l : List Oper) (clo : List (List Nat)) (B : List Nat) : Bool :=
  B.all (fun b => Nat.blt b l.length && (List.range l.length).all fun i => B.contains i || (clo.getD b []).contains i) &&
  (List.range l.length).all fun i => B.contains i || (clo.getD i []).all fun j => !B.contains j
section
variable {N : Nat} {D : List Deferred} {w0 : World} {F : Nat → Prop} {G0 G G1 G2 : GH} {L L1 L2 : OL} {T Xs : List (Nat × Value)}
variable {r : Option Nat} {P : Program} {Q : Exit → Act → World → Prop} {l : List Oper} {a a' : Act} {w w' : World}
theorem beq_no {x y : Nat} (h : x ≠ y) : Nat.beq x y = false := by
  cases h' : Nat.beq x y with
  | false => rfl
  | true => exact absurd (Nat.eq_of_beq_eq_true h') h
theorem dstOf_lt {i e : Nat} (h : dstOf l i = some e) : i < l.length := by
  unfold dstOf at h
  by_cases hl : i < l.length
  · exact hl
  · rw [List.getElem?_eq_none (by omega)] at h; cases h
theorem c_drawY {id : Nat} (hm : P.follows .mixedOrders = true) (clo : List (List Nat)) (B : List Nat) (hk : drawOk l clo = true) (hB : tailOkY l clo B = true) (pr : Nat → Value → GH → Prop)
    (Y : (Nat → Bool) → Act → World → Prop) (H : St N D w0 F G0 G L T a w)
    (hstep : allI (fun i o => ∀ S a w G1, B.contains i = false → S i = false → (∀ j ∈ clo.getD i [], S j = true) → (∀ k o, G k = some o → G1 k = some o) → St N D w0 F G0 G1 L T a w → (∀ i d, S i = true → dstOf l i = some d → ∃ v, a.tmps[d]? = some v ∧ pr i v G1) →
      WL r P l.toArray (fun e a' w' => e = .normal ∧ DX N D w0 F G0 G L T l pr (setT S i) a' w') [o] a w) 0 l)
    (hmid : ∀ S a w G1, (∀ k o, G k = some o → G1 k = some o) → St N D w0 F G0 G1 L T a w → (∀ i d, B.contains i = false → dstOf l i = some d → ∃ v, a.tmps[d]? = some v ∧ pr i v G1) → (∀ i, B.contains i = true → S i = false) → Y S a w)
    (hstepB : allI (fun i o => ∀ S a w, B.contains i = true → S i = false → (∀ j ∈ clo.getD i [], S j = true) → (∀ j, j < l.length → i ∈ clo.getD j [] → S j = false) → Y S a w → WL r P l.toArray (fun e a' w' => e = .normal ∧ Y (setT S i) a' w') [o] a w) 0 l)
    (hend : ∀ S a w, (∀ i, i < l.length → S i = true) → Y S a w → Q .normal a w) : WP r P (.region id l.toArray true) Q a w := by
  simp only [tailOkY, Bool.and_eq_true, List.all_eq_true, List.mem_range, Bool.or_eq_true, List.contains_iff_mem] at hB
  have hB1 : ∀ b ∈ B, b < l.length ∧ ∀ i, i < l.length → i ∉ B → i ∈ clo.getD b [] := fun b hb => ⟨Eq.mp Nat.blt_eq (hB.1 b hb).1, fun i hi hn => ((hB.1 b hb).2 i hi).resolve_left hn⟩
  refine c_draw hm clo hk (fun S a w => ((∀ i, B.contains i = true → S i = false) ∧ DX N D w0 F G0 G L T l pr S a w) ∨ ((∀ i, i < l.length → B.contains i = false → S i = true) ∧ Y S a w))
    (.inl ⟨fun _ _ => rfl, G, fun _ _ h => h, H.move H.hp.drew, fun _ _ h => by cases h⟩) ?_ ?_
  · intro i o S a w ho hX hSi hclo hdesc
    have hil : i < l.length := (List.getElem?_eq_some_iff.1 ho).1
    by_cases hbi : B.contains i = true
    · have hbm : i ∈ B := by simpa using hbi
      have hall : ∀ j, j < l.length → B.contains j = false → S j = true := fun j hj hb => hclo j ((hB1 i hbm).2 j hj (by simpa using hb))
      have hY : Y S a w := by
        rcases hX with ⟨h1, G1, hG, HS, hv⟩ | ⟨_, hY⟩
        · exact hmid S a w G1 hG HS (fun j e hb he => hv j e (hall j (dstOf_lt he) hb) he) h1
        · exact hY
      have h2 := allI_get hstepB i o ho
      rw [Nat.zero_add] at h2
      refine wl_mono (fun e a' w' ⟨he, hD⟩ => ⟨he, .inr ⟨fun j hj hb => ?_, hD⟩⟩) (h2 S a w hbi hSi hclo hdesc hY)
      unfold setT; split
      · rfl
      · exact hall j hj hb
    · have hbi' : B.contains i = false := by cases h : B.contains i with | false => rfl | true => exact absurd h hbi
      rcases hX with ⟨h1, G1, hG, HS, hv⟩ | ⟨h0, _⟩
      · have h2 := allI_get hstep i o ho
        rw [Nat.zero_add] at h2
        refine wl_mono (fun e a' w' ⟨he, hD⟩ => ⟨he, .inl ⟨fun j hj => ?_, hD⟩⟩) (h2 S a w G1 hbi' hSi hclo hG HS hv)
        unfold setT
        rw [if_neg (by rintro rfl; rw [hbi'] at hj; cases hj)]
        exact h1 j hj
      · rw [h0 i hil hbi'] at hSi; cases hSi
  · intro S a w hall hX
    rcases hX with ⟨h1, G1, hG, HS, hv⟩ | ⟨_, hY⟩
    · exact hend S a w hall (hmid S a w G1 hG HS (fun j e _ he => hv j e (hall j (dstOf_lt he)) he) h1)
    · exact hend S a w hall hY
theorem draw_unit {pr : Nat → Value → GH → Prop} {S : Nat → Bool} {i : Nat} (hi : dstOf l i = none) (HT : St N D w0 F G0 G1 L T a w) (hG : ∀ k o, G k = some o → G1 k = some o) (hv : ∀ i d, S i = true → dstOf l i = some d → ∃ v, a.tmps[d]? = some v ∧ pr i v G1)
    (H : St N D w0 F G0 G1 L (Xs ++ full N a) a w') : DX N D w0 F G0 G L T l pr (setT S i) a w' :=
  ⟨G1, hG, HT.move H.hp, fun j e hj he => hv j e (by
    unfold setT at hj
    by_cases hji : j = i
    · subst hji; rw [hi] at he; cases he
    · rwa [if_neg hji] at hj) he⟩
theorem pm_out (A B C D' : OL) : (A ++ (B ++ (C ++ D'))).Perm ((A ++ (B ++ D')) ++ C) := by
  rw [List.append_assoc A, List.append_assoc B]
  exact List.Perm.append_left A (List.Perm.append_left B List.perm_append_comm)
theorem pm_in (A B C D' : OL) : A ++ (B ++ (C ++ D')) = (A ++ (B ++ C)) ++ D' := by simp
theorem setRow_eq : ∀ (vs c : List Value) (o : Nat), o + vs.length ≤ c.length → setRow c o vs = c.take o ++ vs ++ c.drop (o + vs.length)
  | [], c, o, _ => by simp [setRow]
  | v :: vs, c, o, h => by
    simp only [List.length_cons] at h
    rw [setRow, setRow_eq vs (c.set o v) (o + 1) (by simp; omega), List.take_set, List.drop_set, if_pos (by omega), List.take_succ_eq_append_getElem (by omega)]
    have e : ((c.take o ++ [c[o]]).set o v) = c.take o ++ [v] := by
      have hl : (c.take o).length = o := by simp; omega
      rw [List.set_append, if_neg (by omega), hl, Nat.sub_self]; rfl
    rw [e, List.length_cons, show o + 1 + vs.length = o + (vs.length + 1) by omega]
    simp
/-- The last element of a row is written over. -/
theorem IsRow.over {e sz n b cap : Nat} {cur : Array Value} {xs zc news : List Value} (h : IsRow e sz (.slice (some ⟨b, 0, none⟩) (n + 1) cap) (n + 1) (xs ++ zc) [(b, .cells cur e (0, 0))]) (hx : xs.length = n * sz) (hn : news.length = sz) :
    n * sz + news.length ≤ cur.toList.length ∧ IsRow e sz (.slice (some ⟨b, 0, none⟩) (n + 1) cap) (n + 1) (xs ++ news) [(b, .cells (setRow cur.toList (n * sz) news).toArray e (0, 0))] := by
  rcases h.2 with ⟨h1, _⟩ | ⟨b', cap', cur', h1, h2, h3, h4, h5, h6⟩
  · cases h1
  · cases h1
    cases h2
    have e1 : (n + 1) * sz = n * sz + sz := Nat.succ_mul n sz
    have hle : n * sz + news.length ≤ cur.toList.length := by
      rw [hn, ← e1, Array.length_toList, h5]; exact Nat.mul_le_mul_right _ h3
    have hlz : (xs ++ zc).length = (n + 1) * sz := h.1
    refine ⟨hle, by simp [hx, hn, e1], .inr ⟨b, cap, _, rfl, rfl, h3, h4, by simp [setRow_length, h5], ?_⟩⟩
    have h7 : cur.toList.take (n * sz) = xs := by
      have := congrArg (List.take (n * sz)) h6
      rw [List.take_take, Nat.min_eq_left (by omega), List.take_left' hx] at this
      exact this
    rw [List.toList_toArray, setRow_eq _ _ _ hle, e1, h7, hn]
    exact List.take_left' (by simp [hx, hn])
theorem St.weak (h : St N D w0 F G0 G L Xs a w) (hs : ∀ t v, lk T t = some v → lk Xs t = some v) : St N D w0 F G0 G L T a w := ⟨h.asz, fun t v ht => h.get t v (hs t v ht), h.dfr, h.hp⟩
theorem St.cut1 {s : Nat} {v : Value} (h : St N D w0 F G0 G L ((s, v) :: T) a w) (hs : lk T s = none) : St N D w0 F G0 G L T a w := h.weak fun t u ht => by
  rw [lk_cons_ne (fun e => by subst e; rw [hs] at ht; cases ht)]; exact ht
/-- x = append(x, y): the slice's variable is block bp, the element's block bx. -/
abbrev app1Ops (tS tE s0 s1 s2 s3 s4 s5 p0 p1 : Nat) (zv : Value) (y0 y1 y2 y3 y4 y5 y6 y7 : TypeId) (q0 q1 q2 q3 q4 q5 q6 q7 : String) (f0 f1 f2 f3 f4 f5 f6 f7 : Array Edge) : List Oper :=
  [⟨some s0, .load tS (.tmp p0), y0, q0, f0, none⟩, ⟨some s1, .load tE (.tmp p1), y1, q1, f1, none⟩, ⟨some s2, .call { callee := .builtin .len, args := #[.tmp s0], argTypes := #[tS] }, y2, q2, f2, none⟩,
   ⟨some s3, .buildSlice tS 1 #[(0, .const zv)], y3, q3, f3, none⟩, ⟨some s4, .call { callee := .builtin .append, args := #[.tmp s0, .tmp s3], argTypes := #[tS, tS] }, y4, q4, f4, none⟩,
   ⟨some s5, .indexAddr tS (.tmp s4) (.tmp s2), y5, q5, f5, none⟩, ⟨none, .store tE (.tmp s5) (.tmp s1), y6, q6, f6, none⟩, ⟨none, .store tS (.tmp p0) (.tmp s4), y7, q7, f7, none⟩]
abbrev app1Clo : List (List Nat) := [[], [], [0], [], [0, 1, 2, 3], [0, 1, 2, 3, 4], [0, 1, 2, 3, 4, 5], [0, 1, 2, 3, 4]]
set_option maxHeartbeats 1000000 in
theorem c_app1 {id tS tE s0 s1 s2 s3 s4 s5 p0 p1 i0 i1 bp bx n c0 sz bytes szS : Nat} {A0 : Option Addr} {zero zeroS xs news : List Value} {zv : Value} {Li Lo : OL} {y0 y1 y2 y3 y4 y5 y6 y7 : TypeId} {q0 q1 q2 q3 q4 q5 q6 q7 : String} {f0 f1 f2 f3 f4 f5 f6 f7 : Array Edge}
    (hm : P.follows .mixedOrders = true) (hk : drawOk (app1Ops tS tE s0 s1 s2 s3 s4 s5 p0 p1 zv y0 y1 y2 y3 y4 y5 y6 y7 q0 q1 q2 q3 q4 q5 q6 q7 f0 f1 f2 f3 f4 f5 f6 f7) app1Clo = true)
    (hs : P.underlying tS = some (.slice tE)) (htS : Ty P tS 1 szS zeroS false) (ht : Ty P tE sz bytes zero true) (hsz0 : Nat.blt 0 sz = true) (hsz1 : Nat.ble sz 1000 = true) (hzl : Nat.beq zero.length sz = true) (hzc : zv.cells.toList = zero) (hz1 : zero.all Value.oneCell' = true)
    (hok : dstOk (app1Ops tS tE s0 s1 s2 s3 s4 s5 p0 p1 zv y0 y1 y2 y3 y4 y5 y6 y7 q0 q1 q2 q3 q4 q5 q6 q7 f0 f1 f2 f3 f4 f5 f6 f7) T = true) (hsl : [s0, s1, s2, s3, s4, s5].all (fun s => (lk T s).isNone && Nat.blt s N) = true) (hnd : [s0, s1, s2, s3, s4, s5].Nodup)
    (H : St N D w0 F G0 G (Li ++ Lo) T a w) (hp0 : lk T p0 = some (.pointer (some ⟨bp, 0, none⟩))) (hp1 : lk T p1 = some (.pointer (some ⟨bx, 0, none⟩)))
    (hi0 : Li[i0]? = some (bp, .cells #[.slice A0 n c0] tS (0, 0))) (hi1 : Li[i1]? = some (bx, .cells news.toArray tE (0, 0))) (hnl : news.length = sz) (hn1 : news.all Value.oneCell' = true)
    (hrow : IsRow tE sz (.slice A0 n c0) n xs Lo) (h63 : n + 1 ≤ maxLen) (hb' : (n + 1) * bytes ≤ 140737488355328)
    (hend : ∀ v' Lo' G1 a' w', (∀ k o, G k = some o → G1 k = some o) → IsRow tE sz v' (n + 1) (xs ++ news) Lo' → St N D w0 F G0 G1 (Li.set i0 (bp, .cells #[v'] tS (0, 0)) ++ Lo') T a' w' → Q .normal a' w') :
    WP r P (.region id (app1Ops tS tE s0 s1 s2 s3 s4 s5 p0 p1 zv y0 y1 y2 y3 y4 y5 y6 y7 q0 q1 q2 q3 q4 q5 q6 q7 f0 f1 f2 f3 f4 f5 f6 f7).toArray true) Q a w := by
  have hb0 : i0 < Li.length := (List.getElem?_eq_some_iff.1 hi0).1
  have hb1 : i1 < Li.length := (List.getElem?_eq_some_iff.1 hi1).1
  simp only [List.all_cons, List.all_nil, Bool.and_true, Bool.and_eq_true, Option.isNone_iff_eq_none] at hsl
  obtain ⟨⟨l0, b0⟩, ⟨l1, b1⟩, ⟨l2, b2⟩, ⟨l3, b3⟩, ⟨l4, b4⟩, ⟨l5, b5⟩⟩ := hsl
  simp only [List.nodup_cons, List.mem_cons, List.not_mem_nil, or_false, not_or, not_false_eq_true, List.nodup_nil, and_true] at hnd
  obtain ⟨⟨n01, n02, n03, n04, n05⟩, ⟨n12, n13, n14, n15⟩, ⟨n23, n24, n25⟩, ⟨n34, n35⟩, n45⟩ := hnd
  have hzl' : zero.length = sz := Nat.eq_of_beq_eq_true hzl
  have hszle : sz ≤ 1000 := Nat.le_of_ble_eq_true hsz1
  obtain ⟨pr, hpr⟩ : ∃ pr : Nat → Value → GH → Prop, pr = (fun i v G => match i with
      | 0 => v = .slice A0 n c0 | 1 => v = .agg news.toArray | 2 => v = .int .i64 (n : Int) | 3 => ∃ b, v = .slice (some ⟨b, 0, none⟩) 1 1 ∧ G b = some (.cells zero.toArray tE (0, 0)) | _ => True) := ⟨_, rfl⟩
  have hprm : ∀ i v (G G' : GH), (∀ k o, G k = some o → G' k = some o) → pr i v G → pr i v G' := by
    intro i v G G' hm h
    subst hpr
    match i, h with
    | 0, h => exact h
    | 1, h => exact h
    | 2, h => exact h
    | 3, h => obtain ⟨b, h1, h2⟩ := h; exact ⟨b, h1, hm _ _ h2⟩
    | _ + 4, h => exact trivial
  have hset : Li.set i0 (bp, .cells #[.slice A0 n c0] tS (0, 0)) = Li := by
    have e := (List.getElem?_eq_some_iff.1 hi0).2
    rw [← e]; exact List.set_getElem_self _
  have hLi0 : (Li ++ Lo)[i0]? = some (bp, Obj.cells #[.slice A0 n c0] tS (0, 0)) := by rw [List.getElem?_append_left hb0]; exact hi0
  have hLi1 : (Li ++ Lo)[i1]? = some (bx, Obj.cells news.toArray tE (0, 0)) := by rw [List.getElem?_append_left hb1]; exact hi1
  refine c_drawY hm app1Clo [4, 5, 6, 7] hk (by simp [tailOkY, app1Ops, List.range, List.range.loop]) pr
    (fun S a w => ∃ G1 v Lo' xs', (∀ k o, G k = some o → G1 k = some o) ∧ St N D w0 F G0 G1 (Li.set i0 (bp, .cells #[if S 7 then v else .slice A0 n c0] tS (0, 0)) ++ Lo') T a w ∧ a.tmps[s0]? = some (.slice A0 n c0) ∧ a.tmps[s1]? = some (.agg news.toArray) ∧ a.tmps[s2]? = some (.int .i64 (n : Int)) ∧
      (S 4 = false → v = .slice A0 n c0 ∧ Lo' = Lo ∧ S 7 = false ∧ ∃ b, a.tmps[s3]? = some (.slice (some ⟨b, 0, none⟩) 1 1) ∧ G1 b = some (.cells zero.toArray tE (0, 0))) ∧
      (S 4 = true → IsRow tE sz v (n + 1) xs' Lo' ∧ xs' = xs ++ (if S 6 then news else zero) ∧ a.tmps[s4]? = some v ∧ (S 5 = true → ∃ b c, v = .slice (some ⟨b, 0, none⟩) (n + 1) c ∧ a.tmps[s5]? = some (.pointer (some ⟨b, n * sz, none⟩))))) H ?_ ?_ ?_ ?_
  · refine allI_cons ?_ (allI_cons ?_ (allI_cons ?_ (allI_cons ?_ (allI_cons ?_ (allI_cons ?_ (allI_cons ?_ (allI_cons ?_ allI_nil)))))))
    · intro S a w G1 _ hSi hc hG HT hv
      have Hb := HT.full
      refine s_load htS Hb wn (by show lk _ _ = _; rw [lk_append, hp0]) (Hb.hp.ocell i0 hLi0 rfl) b0 ?_
      intro a' H
      refine wl_nil ⟨rfl, ?_⟩
      exact draw_val (dst1_of hok (by show _ < 8; decide)) hprm rfl rfl HT Hb hG hv (fun _ _ h => h) (by subst hpr; rfl) H
    · intro S a w G1 _ hSi hc hG HT hv
      have Hb := HT.full
      refine s_loada ht (cs := news) Hb wn (by show lk _ _ = _; rw [lk_append, hp1]) hnl (Hb.hp.ocells i1 hLi1 (by simp)) b1 ?_
      intro a' H
      refine wl_nil ⟨rfl, ?_⟩
      exact draw_val (dst1_of hok (by show _ < 8; decide)) hprm rfl rfl HT Hb hG hv (fun _ _ h => h) (by subst hpr; rfl) H
    · intro S a w G1 _ hSi hc hG HT hv
      obtain ⟨u, hu, hpu⟩ := hv 0 s0 (hc 0 (by decide)) rfl
      obtain rfl : u = .slice A0 n c0 := by subst hpr; exact hpu
      have Hb := (HT.addS hu).full
      refine s_len hs Hb wn (by show lk _ _ = _; rw [lk_append, lk_cons_self]) b2 ?_
      intro a' H
      refine wl_nil ⟨rfl, ?_⟩
      exact draw_val (dst1_of hok (by show _ < 8; decide)) hprm rfl rfl HT Hb hG hv (fun _ _ h => h) (by subst hpr; rfl) H
    · intro S a w G1 _ hSi hc hG HT hv
      have Hb := HT.full
      have hzz : ((List.range (1 * sz)).map (fun i => zero[i % zero.length]!)).length = sz := by simp
      refine s_buildSlice (xs := [(0, .const zv)]) (vs := [(0, zv)]) (vs' := [(0, zero)]) hs ht _ zero Hb wn rfl (by simp [hzc]) (by rw [Nat.one_mul]; exact hsz1) (by rw [Nat.one_mul]; exact beq_no (by have : 0 < sz := Eq.mp Nat.blt_eq hsz0; omega)) rfl (fun i q h => by match i, h with | 0, h => exact h | n + 1, h => simp at h) ?_ b3 ?_
      · have e1 : Nat.beq zero.length sz = true := hzl
        have e2 : Nat.ble (0 * sz + zero.length) ((List.range (1 * sz)).map (fun i => zero[i % zero.length]!)).length = true := by rw [hzz, hzl', Nat.zero_mul, Nat.zero_add]; exact Eq.mpr Nat.ble_eq (Nat.le_refl _)
        have e3 : ∀ z : List Value, Nat.ble (0 * sz + zero.length) z.length = true → z.length = sz → fillL ((List.range 1).map fun i => (i * sz, sz)) z [(0, zero)] = some zero := by
          intro z h1 h2
          have h3 : ((List.range 1).map fun i => (i * sz, sz))[0]? = some (0 * sz, sz) := rfl
          simp only [fillL, h3, e1, h1, Bool.and_self, cond_true]
          rw [setRow_eq _ _ _ (by omega), Nat.zero_mul, List.take_zero, List.nil_append, Nat.zero_add, List.drop_of_length_le (by omega), List.append_nil]
        exact e3 _ e2 hzz
      · intro b a' w' hbs H
        obtain ⟨G2, hm2, hb, H⟩ := H.giveBox
        refine wl_nil ⟨rfl, ?_⟩
        exact draw_val (dst1_of hok (by show _ < 8; decide)) hprm rfl rfl HT Hb hG hv hm2 (by subst hpr; exact ⟨b, rfl, hb⟩) H
    · intro _ _ _ _ hB; exact absurd hB (by decide)
    · intro _ _ _ _ hB; exact absurd hB (by decide)
    · intro _ _ _ _ hB; exact absurd hB (by decide)
    · intro _ _ _ _ hB; exact absurd hB (by decide)
  · intro S a w G1 hG HS hv hB
    obtain ⟨u0, hu0, hp0'⟩ := hv 0 s0 (by decide) rfl
    obtain ⟨u1, hu1, hp1'⟩ := hv 1 s1 (by decide) rfl
    obtain ⟨u2, hu2, hp2'⟩ := hv 2 s2 (by decide) rfl
    obtain ⟨u3, hu3, hp3'⟩ := hv 3 s3 (by decide) rfl
    subst hpr
    obtain rfl : u0 = .slice A0 n c0 := hp0'
    obtain rfl : u1 = .agg news.toArray := hp1'
    obtain rfl : u2 = .int .i64 (n : Int) := hp2'
    obtain ⟨b, rfl, hb⟩ : ∃ b, u3 = .slice (some ⟨b, 0, none⟩) 1 1 ∧ G1 b = some (.cells zero.toArray tE (0, 0)) := hp3'
    have h7 := hB 7 (by decide)
    have h4 := hB 4 (by decide)
    refine ⟨G1, _, Lo, xs, hG, ?_, hu0, hu1, hu2, fun _ => ⟨rfl, rfl, h7, b, hu3, hb⟩, fun h => by rw [h4] at h; cases h⟩
    rw [h7, if_neg (by decide), hset]; exact HS
  · refine allI_cons ?_ (allI_cons ?_ (allI_cons ?_ (allI_cons ?_ (allI_cons ?_ (allI_cons ?_ (allI_cons ?_ (allI_cons ?_ allI_nil)))))))
    · intro _ _ _ hB; exact absurd hB (by decide)
    · intro _ _ _ hB; exact absurd hB (by decide)
    · intro _ _ _ hB; exact absurd hB (by decide)
    · intro _ _ _ hB; exact absurd hB (by decide)
    · rintro S a w - h4 - hd ⟨G1, v, Lo', xs', hG, HS, h0, h1, h2, hA, -⟩
      obtain ⟨rfl, rfl, h7, b, h3, hb⟩ := hA h4
      rw [h7, if_neg (by decide)] at HS
      have H := (((HS.addS h0).addS h1).addS h2).addS h3
      refine s_append (news := zero) hs ht hzl hsz0 H wn (by show lk _ _ = _; rw [lk_cons_ne (Ne.symm n03), lk_cons_ne (Ne.symm n02), lk_cons_ne (Ne.symm n01), lk_cons_self]) (by show lk _ _ = _; rw [lk_cons_self]) hrow (by rw [Nat.one_mul]; exact hzl') (fun j u hj => H.hp.gcell (by unfold gcell; rw [hb]; simpa using hj)) hz1 h63 hb' b4 ?_
      intro v' Lo2 a' w' hrow' H'
      refine wl_nil ⟨rfl, G1, v', Lo2, xs ++ zero, hG, ?_, ?_, ?_, ?_, fun h => ?_, fun _ => ⟨hrow', ?_, ?_, fun h => ?_⟩⟩
      · rw [show (setT S 4) 7 = false from h7, if_neg (by decide)]
        exact ((((H'.cut1 (by rw [lk_cons_ne n34, lk_cons_ne n24, lk_cons_ne n14, lk_cons_ne n04]; exact l4)).cut1 (by rw [lk_cons_ne n23, lk_cons_ne n13, lk_cons_ne n03]; exact l3)).cut1 (by rw [lk_cons_ne n12, lk_cons_ne n02]; exact l2)).cut1 (by rw [lk_cons_ne n01]; exact l1)).cut1 l0
      · exact H'.get s0 _ (by rw [lk_cons_ne (Ne.symm n04), lk_cons_ne (Ne.symm n03), lk_cons_ne (Ne.symm n02), lk_cons_ne (Ne.symm n01), lk_cons_self])
      · exact H'.get s1 _ (by rw [lk_cons_ne (Ne.symm n14), lk_cons_ne (Ne.symm n13), lk_cons_ne (Ne.symm n12), lk_cons_self])
      · exact H'.get s2 _ (by rw [lk_cons_ne (Ne.symm n24), lk_cons_ne (Ne.symm n23), lk_cons_self])
      · exact absurd h (by simp [setT])
      · rw [show (setT S 4) 6 = false from hd 6 (show 6 < 8 by decide) (by decide)]; rfl
      · exact H'.get s4 _ (lk_cons_self _ _ _)
      · exact absurd h (by rw [show (setT S 4) 5 = S 5 from rfl, hd 5 (show 5 < 8 by decide) (by decide)]; decide)
    · rintro S a w - h5 hc hd ⟨G1, v, Lo', xs', hG, HS, h0, h1, h2, -, hA⟩
      obtain ⟨hrow', hxs, hs4, -⟩ := hA (hc 4 (by decide))
      obtain ⟨b, cap, hv, -⟩ : ∃ b cap, v = .slice (some ⟨b, 0, none⟩) (n + 1) cap ∧ True := by
        rcases hrow'.2 with ⟨_, h, _⟩ | ⟨b, cap, cur, h, _⟩
        · cases h
        · exact ⟨b, cap, h, trivial⟩
      subst hv
      have H := (((HS.addS h0).addS h1).addS h2).addS hs4
      refine s_index hs ht n H wn (by show lk _ _ = _; rw [lk_cons_self]) (by show lk _ _ = _; rw [lk_cons_ne (Ne.symm n24), lk_cons_self]) rfl (Nat.lt_succ_self n) b5 ?_
      intro a' H'
      rw [Nat.zero_add] at H'
      refine wl_nil ⟨rfl, G1, _, Lo', xs', hG, ?_, ?_, ?_, ?_, fun h => ?_, fun _ => ⟨hrow', hxs, ?_, fun h => ⟨b, cap, rfl, ?_⟩⟩⟩
      · exact ((((H'.cut1 (by rw [lk_cons_ne n45, lk_cons_ne n25, lk_cons_ne n15, lk_cons_ne n05]; exact l5)).cut1 (by rw [lk_cons_ne n24, lk_cons_ne n14, lk_cons_ne n04]; exact l4)).cut1 (by rw [lk_cons_ne n12, lk_cons_ne n02]; exact l2)).cut1 (by rw [lk_cons_ne n01]; exact l1)).cut1 l0
      · exact H'.get s0 _ (by rw [lk_cons_ne (Ne.symm n05), lk_cons_ne (Ne.symm n04), lk_cons_ne (Ne.symm n02), lk_cons_ne (Ne.symm n01), lk_cons_self])
      · exact H'.get s1 _ (by rw [lk_cons_ne (Ne.symm n15), lk_cons_ne (Ne.symm n14), lk_cons_ne (Ne.symm n12), lk_cons_self])
      · exact H'.get s2 _ (by rw [lk_cons_ne (Ne.symm n25), lk_cons_ne (Ne.symm n24), lk_cons_self])
      · exact absurd h (by rw [show (setT S 5) 4 = S 4 from rfl, hc 4 (by decide)]; decide)
      · exact H'.get s4 _ (by rw [lk_cons_ne (Ne.symm n45), lk_cons_self])
      · exact H'.get s5 _ (lk_cons_self _ _ _)
    · rintro S a w - h6 hc hd ⟨G1, v, Lo', xs', hG, HS, h0, h1, h2, -, hA⟩
      obtain ⟨hrow', hxs, hs4, h5⟩ := hA (hc 4 (by decide))
      obtain ⟨b, cap, rfl, hs5⟩ := h5 (hc 5 (by decide))
      rw [h6, if_neg (by decide)] at hxs
      subst hxs
      obtain ⟨cur, hLo⟩ : ∃ cur, Lo' = [(b, .cells cur tE (0, 0))] := by
        rcases hrow'.2 with ⟨h, _⟩ | ⟨b', cap', cur, h, h', _⟩
        · cases h
        · cases h; exact ⟨cur, h'⟩
      subst hLo
      obtain ⟨hle, hov⟩ := hrow'.over hrow.1 hnl
      have H := (HS.addS h1).addS hs5
      refine s_store ht Li.length (b := b) (o := n * sz) (c := cur.toList) (e := tE) (vs := news) _ H wn (by show lk _ _ = _; rw [lk_cons_self]) (by rw [List.getElem?_append_right (by simp), List.length_set, Nat.sub_self]; simp) (by show lk _ _ = _; rw [lk_cons_ne (Ne.symm n15), lk_cons_self]) rfl (by rw [hnl]; exact Nat.beq_refl sz) hn1 (Eq.mpr Nat.ble_eq hle) rfl ?_
      intro w' H'
      refine wl_nil ⟨rfl, G1, _, _, _, hG, ?_, h0, h1, h2, fun h => ?_, fun _ => ⟨hov, ?_, hs4, fun _ => ⟨b, cap, rfl, hs5⟩⟩⟩
      · have H2 := (H'.cut1 (by rw [lk_cons_ne n15]; exact l5)).cut1 l1
        rw [List.set_append_right _ _ (by simp), List.length_set, Nat.sub_self] at H2
        exact H2
      · exact absurd h (by rw [show (setT S 6) 4 = S 4 from rfl, hc 4 (by decide)]; decide)
      · rw [show (setT S 6) 6 = true from rfl]; rfl
    · rintro S a w - h7 hc hd ⟨G1, v, Lo', xs', hG, HS, h0, h1, h2, -, hA⟩
      obtain ⟨hrow', hxs, hs4, h5⟩ := hA (hc 4 (by decide))
      obtain ⟨A', cap, rfl, -, -⟩ := hrow'.shape
      rw [h7, if_neg (by decide), hset] at HS
      have H := HS.addS hs4
      refine s_store htS i0 (c := [.slice A0 n c0]) (vs := [.slice A' (n + 1) cap]) _ H wn (by show lk _ _ = _; rw [lk_cons_ne (fun e => by subst e; rw [hp0] at l4; cases l4)]; exact hp0) (by rw [List.getElem?_append_left hb0]; exact hi0) (by show lk _ _ = _; rw [lk_cons_self]) rfl rfl rfl rfl rfl ?_
      intro w' H'
      refine wl_nil ⟨rfl, G1, _, Lo', xs', hG, ?_, h0, h1, h2, fun h => ?_, fun _ => ⟨hrow', hxs, hs4, h5⟩⟩
      · have H2 := H'.cut1 l4
        rw [List.set_append_left _ _ hb0] at H2
        rw [show (setT S 7) 7 = true from rfl]
        exact H2
      · exact absurd h (by rw [show (setT S 7) 4 = S 4 from rfl, hc 4 (by decide)]; decide)
  · rintro S a w hall ⟨G1, v, Lo', xs', hG, HS, h0, h1, h2, -, hA⟩
    obtain ⟨hrow', hxs, hs4, h5⟩ := hA (hall 4 (show 4 < 8 by decide))
    rw [hall 6 (show 6 < 8 by decide)] at hxs
    rw [hall 7 (show 7 < 8 by decide)] at HS
    subst hxs
    exact hend v Lo' G1 a w hG hrow' HS
end
end Go.Proofs.YtpmcdlhhfbobfaaDoor
