/-
  Ranges over functions that turn a block of their own.
-/
import Derived.Test.YtpmcdlhhfbobfaaDoorRg
namespace Go.Proofs.YtpmcdlhhfbobfaaDoor
open Go.RowKit
section
variable {P : Program} {N : Nat} {D : List Deferred} {w0 w w' : World} {F : Nat → Prop} {G0 G G' : GH} {L L' Li Lo : OL} {T : List (Nat × Value)} {a a' : Act} {Q : Exit → Act → World → Prop}
variable {r : Option Nat} {ops : Array Oper} {rest : List Oper}
/-- gv, that owns the blocks B, calls what it is handed at each of xs in turn, till it says no. -/
def IterO (P : Program) (Gi : GH) (B : OL) (gv : Value) (xs : List AP) : Prop :=
  ∀ (J : Nat → GH → OL → Prop) (Jx : GH → OL → Prop) (fv : Value) (G : GH) (L : OL) (w : World), fv.cells = #[fv] → (∀ b o, Gi b = some o → G b = some o) → JMono J → XMono Jx → J 0 G L → Owns G (B ++ L) w → Cback P fv G xs J Jx →
    CallV P gv [fv] w (RetL w G (B ++ L) fun _ G' L' => J xs.length G' L' ∨ Jx G' L')
theorem IterO.mono {Gi Gi' : GH} {B : OL} {gv : Value} {xs : List AP} (h : IterO P Gi B gv xs) (hm : ∀ b o, Gi b = some o → Gi' b = some o) : IterO P Gi' B gv xs :=
  fun J Jx fv G L w h0 h1 => h J Jx fv G L w h0 fun b o hb => h1 b o (hm b o hb)
theorem c_rangeO {B : OL} {gop : Operand} {ps : List Nat} {assign body : Code} {gf : FuncId} {caps : List Value} {xs : List AP} {Gi : GH}
    (H : St N D w0 F G0 G (B ++ L) T a w) (hg : ev T gop = some (.func (.func gf) #[] caps.toArray)) (en : ∀ args w, (callFunc gf args).run P w = .ok (.enter gf args) w) (hit : IterO P Gi B (.func (.func gf) #[] caps.toArray) xs) (hGi : ∀ b o, Gi b = some o → G b = some o)
    (hps : ps.all (Nat.blt · N) = true) (hlen : ∀ k args g, AtAP xs k args g → args.length = ps.length)
    (J : Nat → GH → OL → Prop) (Jx : Code → GH → OL → Prop) (hJm : JMono J) (hJx : ∀ c, XMono (Jx c)) (h0 : J 0 G L) (hround : RoundOk P N ps assign body T G J Jx xs)
    (hdone : ∀ Dk G1 L1 a1 w1, (∀ b o, G b = some o → G1 b = some o) → J xs.length G1 L1 → St N ({ target := .collected Dk, args := #[] } :: D) w0 F G0 G1 ((Dk, .deferred (some [])) :: L1) T a1 w1 → Q .normal a1 w1)
    (hstop : ∀ Dk c G1 L1 a1 w1, (∀ b o, G b = some o → G1 b = some o) → Jx c G1 L1 → St N ({ target := .collected Dk, args := #[] } :: D) w0 F G0 G1 ((Dk, .deferred (some [])) :: L1) T a1 w1 → WP none P c Q a1 w1) :
    WP none P (.rangeFunc gop ps.toArray assign body) Q a w := by
  refine wpIn_rangeFunc ?_
  intro fn _
  have hev := H.ev hg
  let q : Rec := ⟨fn, a.tmps, ps.toArray, assign, body, w.heap.size⟩
  obtain ⟨W1, hW1⟩ : ∃ W1, W1 = (w.alloc (.deferred (some []))).alloc (q.at .ready none) := ⟨_, rfl⟩
  have H1 : Hp w0 F G0 G (B ++ ((w.heap.size + 1, q.at .ready none) :: (w.heap.size, .deferred (some [])) :: L)) W1 := by
    have := (H.hp.alloc (.deferred (some []))).alloc (q.at .ready none)
    rw [World.size_alloc] at this
    rw [hW1]
    refine this.perm ?_
    have e := List.perm_append_comm (l₁ := [(w.heap.size + 1, q.at .ready none), (w.heap.size, Obj.deferred (some []))]) (l₂ := B)
    have e2 := List.Perm.append_right L e
    rw [List.append_assoc, List.append_assoc] at e2
    exact e2
  refine ⟨w.heap.size + 1, [{ target := .collected w.heap.size, args := #[] }], W1, { target := .fn (.func gf) caps.toArray, args := #[.func (.yield (w.heap.size + 1)) #[] #[]] }, W1, gf,
    #[.func (.yield (w.heap.size + 1)) #[] #[]] ++ caps.toArray, W1, by rw [hW1]; exact run_enterLoop_outer fn a.tmps ps.toArray assign body, ?_, fun _ _ => trivial, ?_, FW_depth none, ?_⟩
  · simp only [resolve, rangeCall, hev]
    simp [Deferred.ofValue, Act.eval]
  · simp [invoke, en]
  · have hcv := hit (fun k => Jr (w.heap.size + 1) q [(w.heap.size, .deferred (some []))] (J k)) (Jrx (w.heap.size + 1) q [(w.heap.size, .deferred (some []))] Jx) (.func (.yield (w.heap.size + 1)) #[] #[]) G
      ((w.heap.size + 1, q.at .ready none) :: (w.heap.size, .deferred (some [])) :: L) W1 rfl hGi (fun k G G' L hm ⟨Lu, e, h⟩ => ⟨Lu, e, hJm k G G' Lu hm h⟩) (fun G G' L hm ⟨c, Lu, e, h⟩ => ⟨c, Lu, e, hJx c G G' Lu hm h⟩) ⟨L, rfl, h0⟩ (Hp.owns (Li := []) H1) (cback_yield H.asz H.get hps hlen hround)
    replace hcv := hcv.go
    have e : (do let d ← Deferred.ofValue (.func (.func gf) #[] caps.toArray) [Value.func (.yield (w.heap.size + 1)) #[] #[]].toArray; invoke d.target d.args : Sem Next).run P W1 = .ok (.enter gf (#[.func (.yield (w.heap.size + 1)) #[] #[]] ++ caps.toArray)) W1 := by
      simp [Deferred.ofValue, invoke, en]
    rw [e] at hcv
    refine (callsIn_of_calls hcv).mono ?_
    rintro e w2 ⟨v, G2, L2, rfl, hch, hJ⟩
    have H2 := Hp.change (Li := []) H1 hch
    rcases hJ with ⟨Lu, rfl, hJ⟩ | ⟨c, Lu, rfl, hJ⟩
    · have hl := H2.own _ (List.mem_cons_self)
      have H3 := (H2.upd (i := 0) rfl (upd_putObj (q.at .exhausted none) hl)).drop (List.sublist_cons_self _ _)
      exact ⟨none, _, run_endLoop hl (by simp), hdone _ G2 Lu _ _ hch.gm hJ ⟨H.asz, H.get, by simp [H.dfr], H3⟩⟩
    · have hl := H2.own _ (List.mem_cons_self)
      have H3 := (H2.upd (i := 0) rfl (upd_putObj (q.at .exhausted (some c)) hl)).drop (List.sublist_cons_self _ _)
      exact ⟨some c, _, run_endLoop hl (by simp), hstop _ c G2 Lu _ _ hch.gm hJ ⟨H.asz, H.get, by simp [H.dfr], H3⟩⟩
/-- A range over a function whose state is told by ghosts. -/
theorem c_rangeJO {B : OL} {ι κ : Type} {Lc : OL} {gop : Operand} {ps : List Nat} {assign body : Code} {gf : FuncId} {caps : List Value} {xs : List AP} {Gi : GH}
    (Lv : Nat → ι → OL) (Lt : Nat → ι → OL) (inv : Nat → ι → GH → Prop) (cx : κ → Code) (Lx Lxt : κ → OL) (invx : κ → GH → Prop) (i0 : ι)
    (H : St N D w0 F G0 G (B ++ (Lc ++ Lv 0 i0 ++ Lt 0 i0)) T a w) (hg : ev T gop = some (.func (.func gf) #[] caps.toArray)) (en : ∀ args w, (callFunc gf args).run P w = .ok (.enter gf args) w) (hit : IterO P Gi B (.func (.func gf) #[] caps.toArray) xs) (hGi : ∀ b o, Gi b = some o → G b = some o)
    (hps : ps.all (Nat.blt · N) = true) (hlen : ∀ k args g, AtAP xs k args g → args.length = ps.length) (hinv : ∀ k i (G G' : GH), (∀ b o, G b = some o → G' b = some o) → inv k i G → inv k i G') (hinvx : ∀ x (G G' : GH), (∀ b o, G b = some o → G' b = some o) → invx x G → invx x G') (h0 : inv 0 i0 G)
    (round : ∀ (l : Nat) (rdy bsy : Obj) (bk : OL) (k : Nat) (args : List Value) (i : ι) (G1 : GH) (w1 : World) (F1 : Nat → Prop) (B1 : Code → Exit → Act → World → Prop) (a1 : Act), AtAP xs k args G1 → (∀ b o, G b = some o → G1 b = some o) → inv k i G1 →
      (∀ T' G2 L2 a2 w2 c, St N [] w1 F1 G1 G2 ((l, rdy) :: L2) T' a2 w2 → (∀ w3, St N [] w1 F1 G1 G2 ((l, bsy) :: L2) T' a2 w3 → WP (some l) P c (B1 c) a2 w3) → Exit.then (fun a2 w2 => ∃ w3, (Instr.beginRound l).run P w2 = .ok () w3 ∧ c.wpIn (FW (some l)) 0 P (B1 c) a2 w3) (fun _ _ _ => False) .normal a2 w2) →
      (∀ i' T' G2 a2 w2 c, St N [] w1 F1 G1 G2 ((l, bsy) :: (Lc ++ Lv (k + 1) i' ++ (bk ++ Lt (k + 1) i'))) T' a2 w2 → inv (k + 1) i' G2 → B1 c .normal a2 w2) →
      (∀ x T' G2 a2 w2 c, St N [] w1 F1 G1 G2 ((l, bsy) :: (Lc ++ Lx x ++ (bk ++ Lxt x))) T' a2 w2 → invx x G2 → (cx x = .ret → B1 c .ret a2 w2) ∧ ∀ n, cx x = .exit n → B1 c (.exit n) a2 w2) →
      St N [] w1 F1 G1 G1 ((l, rdy) :: (Lc ++ Lv k i ++ (bk ++ Lt k i))) (asg ps args T) a1 w1 →
      WP (some l) P assign (Exit.then (fun a2 w2 => ∃ w3, (Instr.beginRound l).run P w2 = .ok () w3 ∧ body.wpIn (FW (some l)) 0 P (B1 body) a2 w3) (fun _ _ _ => False)) a1 w1)
    (hdone : ∀ Dk i G1 a1 w1, (∀ b o, G b = some o → G1 b = some o) → inv xs.length i G1 → St N ({ target := .collected Dk, args := #[] } :: D) w0 F G0 G1 ((Dk, .deferred (some [])) :: (Lc ++ Lv xs.length i ++ Lt xs.length i)) T a1 w1 → Q .normal a1 w1)
    (hstop : ∀ Dk x G1 a1 w1, (∀ b o, G b = some o → G1 b = some o) → invx x G1 → St N ({ target := .collected Dk, args := #[] } :: D) w0 F G0 G1 ((Dk, .deferred (some [])) :: (Lc ++ Lx x ++ Lxt x)) T a1 w1 → WP none P (cx x) Q a1 w1) :
    WP none P (.rangeFunc gop ps.toArray assign body) Q a w := by
  refine c_rangeO (J := fun k g L => ∃ i, L = Lc ++ Lv k i ++ Lt k i ∧ inv k i g) (Jx := fun c g L => ∃ x, c = cx x ∧ L = Lc ++ Lx x ++ Lxt x ∧ invx x g) H hg en hit hGi hps hlen (fun k G G' L hm ⟨i, e, h⟩ => ⟨i, e, hinv k i G G' hm h⟩) (fun c G G' L hm ⟨x, e1, e2, h⟩ => ⟨x, e1, e2, hinvx x G G' hm h⟩) ⟨i0, rfl, h0⟩ ?_ ?_ ?_
  · rintro l q bk k args G1 L1 w1 a1 hk hm ⟨i, rfl, hi⟩ H1
    have pm : ∀ A B : OL, (bk ++ (A ++ B)).Perm (A ++ (bk ++ B)) := fun A B => by
      rw [← List.append_assoc, ← List.append_assoc]
      exact List.Perm.append_right B List.perm_append_comm
    refine round l (q.at .ready none) (q.at .busy none) bk k args i G1 w1 _ (fun _ => roundPost P l _) a1 hk hm hi ?_ ?_ ?_ (H1.perm (List.Perm.cons _ (pm _ _)))
    · intro T' G2 L2 a2 w2 c H2 h
      exact c_begin H2 h
    · intro i' T' G2 a2 w2 c H2 h2
      exact round_end none (H2.perm (List.Perm.cons _ (pm _ _).symm)) ⟨_, rfl, i', rfl, h2⟩
    · intro x T' G2 a2 w2 c H2 h2
      have H3 := H2.perm (List.Perm.cons _ (pm _ _).symm)
      refine ⟨fun e => ?_, fun n e => ?_⟩
      · exact round_end (some .ret) H3 ⟨_, _, rfl, x, e.symm, rfl, h2⟩
      · exact round_end (some (.exit n)) H3 ⟨_, _, rfl, x, e.symm, rfl, h2⟩
  · rintro Dk G1 L1 a1 w1 hm ⟨i, rfl, hi⟩ H1
    exact hdone Dk i G1 a1 w1 hm hi H1
  · rintro Dk c G1 L1 a1 w1 hm ⟨x, rfl, rfl, hx⟩ H1
    exact hstop Dk x G1 a1 w1 hm hx H1
end
end Go.Proofs.YtpmcdlhhfbobfaaDoor
