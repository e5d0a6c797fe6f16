/-
  Ranges over functions whose state is told by ghosts.
-/
import Derived.Test.YtpmcdlhhfbobfaaDoorCb
namespace Go.Proofs.YtpmcdlhhfbobfaaDoor
open Go.RowKit
section
variable {P : Program} {N : Nat} {D : List Deferred} {w0 w w' : World} {F : Nat → Prop} {G0 G G' : GH} {L L' Li Lo : OL} {T : List (Nat × Value)} {a a' : Act} {Q : Exit → Act → World → Prop}
theorem St.cast (h : St N D w0 F G0 G L T a w) (e : L = L') : St N D w0 F G0 G L' T a w := e ▸ h
theorem St.assoc {A B C : OL} (h : St N D w0 F G0 G ((A ++ B) ++ C) T a w) : St N D w0 F G0 G (A ++ (B ++ C)) T a w := h.cast (List.append_assoc _ _ _)
theorem St.un {A B C : OL} (h : St N D w0 F G0 G (A ++ (B ++ C)) T a w) : St N D w0 F G0 G ((A ++ B) ++ C) T a w := h.cast (List.append_assoc _ _ _).symm
theorem St.nilT {A B : OL} (h : St N D w0 F G0 G (A ++ B) T a w) : St N D w0 F G0 G (A ++ (B ++ [])) T a w := h.cast (by rw [List.append_nil])
/-- A range over a function whose state is told by ghosts. -/
theorem c_rangeJ {ι κ : Type} {Lc : OL} {gop : Operand} {ps : List Nat} {assign body : Code} {gf : FuncId} {caps : List Value} {xs : List AP} {Gi : GH}
    (Lv : Nat → ι → OL) (Lt : Nat → ι → OL) (inv : Nat → ι → GH → Prop) (cx : κ → Code) (Lx Lxt : κ → OL) (invx : κ → GH → Prop) (i0 : ι)
    (H : St N D w0 F G0 G (Lc ++ Lv 0 i0 ++ Lt 0 i0) T a w) (hg : ev T gop = some (.func (.func gf) #[] caps.toArray)) (en : ∀ args w, (callFunc gf args).run P w = .ok (.enter gf args) w) (hit : Iter P Gi (.func (.func gf) #[] caps.toArray) xs) (hGi : ∀ b o, Gi b = some o → G b = some o)
    (hps : ps.all (Nat.blt · N) = true) (hlen : ∀ k args g, AtAP xs k args g → args.length = ps.length) (hinv : ∀ k i (G G' : GH), (∀ b o, G b = some o → G' b = some o) → inv k i G → inv k i G') (hinvx : ∀ x (G G' : GH), (∀ b o, G b = some o → G' b = some o) → invx x G → invx x G') (h0 : inv 0 i0 G)
    (round : ∀ (l : Nat) (rdy bsy : Obj) (bk : OL) (k : Nat) (args : List Value) (i : ι) (G1 : GH) (w1 : World) (F1 : Nat → Prop) (B1 : Code → Exit → Act → World → Prop) (a1 : Act), AtAP xs k args G1 → (∀ b o, G b = some o → G1 b = some o) → inv k i G1 →
      (∀ T' G2 L2 a2 w2 c, St N [] w1 F1 G1 G2 ((l, rdy) :: L2) T' a2 w2 → (∀ w3, St N [] w1 F1 G1 G2 ((l, bsy) :: L2) T' a2 w3 → WP (some l) P c (B1 c) a2 w3) → Exit.then (fun a2 w2 => ∃ w3, (Instr.beginRound l).run P w2 = .ok () w3 ∧ c.wpIn (FW (some l)) 0 P (B1 c) a2 w3) (fun _ _ _ => False) .normal a2 w2) →
      (∀ i' T' G2 a2 w2 c, St N [] w1 F1 G1 G2 ((l, bsy) :: (Lc ++ Lv (k + 1) i' ++ (bk ++ Lt (k + 1) i'))) T' a2 w2 → inv (k + 1) i' G2 → B1 c .normal a2 w2) →
      (∀ x T' G2 a2 w2 c, St N [] w1 F1 G1 G2 ((l, bsy) :: (Lc ++ Lx x ++ (bk ++ Lxt x))) T' a2 w2 → invx x G2 → (cx x = .ret → B1 c .ret a2 w2) ∧ ∀ n, cx x = .exit n → B1 c (.exit n) a2 w2) →
      St N [] w1 F1 G1 G1 ((l, rdy) :: (Lc ++ Lv k i ++ (bk ++ Lt k i))) (asg ps args T) a1 w1 →
      WP (some l) P assign (Exit.then (fun a2 w2 => ∃ w3, (Instr.beginRound l).run P w2 = .ok () w3 ∧ body.wpIn (FW (some l)) 0 P (B1 body) a2 w3) (fun _ _ _ => False)) a1 w1)
    (hdone : ∀ Dk i G1 a1 w1, (∀ b o, G b = some o → G1 b = some o) → inv xs.length i G1 → St N ({ target := .collected Dk, args := #[] } :: D) w0 F G0 G1 ((Dk, .deferred (some [])) :: (Lc ++ Lv xs.length i ++ Lt xs.length i)) T a1 w1 → Q .normal a1 w1)
    (hstop : ∀ Dk x G1 a1 w1, (∀ b o, G b = some o → G1 b = some o) → invx x G1 → St N ({ target := .collected Dk, args := #[] } :: D) w0 F G0 G1 ((Dk, .deferred (some [])) :: (Lc ++ Lx x ++ Lxt x)) T a1 w1 → WP none P (cx x) Q a1 w1) :
    WP none P (.rangeFunc gop ps.toArray assign body) Q a w := by
  refine c_range (J := fun k g L => ∃ i, L = Lc ++ Lv k i ++ Lt k i ∧ inv k i g) (Jx := fun c g L => ∃ x, c = cx x ∧ L = Lc ++ Lx x ++ Lxt x ∧ invx x g) H hg en hit hGi hps hlen (fun k G G' L hm ⟨i, e, h⟩ => ⟨i, e, hinv k i G G' hm h⟩) (fun c G G' L hm ⟨x, e1, e2, h⟩ => ⟨x, e1, e2, hinvx x G G' hm h⟩) ⟨i0, rfl, h0⟩ ?_ ?_ ?_
  · rintro l q bk k args G1 L1 w1 a1 hk hm ⟨i, rfl, hi⟩ H1
    have pm : ∀ A B : OL, (bk ++ (A ++ B)).Perm (A ++ (bk ++ B)) := fun A B => by
      rw [← List.append_assoc, ← List.append_assoc]
      exact List.Perm.append_right B List.perm_append_comm
    refine round l (q.at .ready none) (q.at .busy none) bk k args i G1 w1 _ (fun _ => roundPost P l _) a1 hk hm hi ?_ ?_ ?_ (H1.perm (List.Perm.cons _ (pm _ _)))
    · intro T' G2 L2 a2 w2 c H2 h
      exact c_begin H2 h
    · intro i' T' G2 a2 w2 c H2 h2
      exact round_end none (H2.perm (List.Perm.cons _ (pm _ _).symm)) ⟨_, rfl, i', rfl, h2⟩
    · intro x T' G2 a2 w2 c H2 h2
      have H3 := H2.perm (List.Perm.cons _ (pm _ _).symm)
      refine ⟨fun e => ?_, fun n e => ?_⟩
      · exact round_end (some .ret) H3 ⟨_, _, rfl, x, e.symm, rfl, h2⟩
      · exact round_end (some (.exit n)) H3 ⟨_, _, rfl, x, e.symm, rfl, h2⟩
  · rintro Dk G1 L1 a1 w1 hm ⟨i, rfl, hi⟩ H1
    exact hdone Dk i G1 a1 w1 hm hi H1
  · rintro Dk c G1 L1 a1 w1 hm ⟨x, rfl, rfl, hx⟩ H1
    exact hstop Dk x G1 a1 w1 hm hx H1
/-! ## Loops in whose rounds functions are ranged over: the marks pile up -/
def mkD (ds : List Nat) : List Deferred := ds.map fun b => { target := .collected b, args := #[] }
def mkL (ds : List Nat) : OL := ds.map fun b => (b, .deferred (some []))
theorem c_loopD {r : Option Nat} {ι : Type} {c : Code} {Tc : List (Nat × Value)} {Lc : List (Nat × Obj)} (Dv : ι → List Deferred) (Tv : ι → List (Nat × Value)) (Lv : ι → List (Nat × Obj)) (Gv : ι → GH) (Pr : ι → Prop) (m : ι → Nat) (i0 : ι)
    (H : St N (Dv i0) w0 F G0 (Gv i0) (Lc ++ Lv i0) (Tv i0 ++ Tc) a w) (hP : Pr i0)
    (round : ∀ i a w, Pr i → St N (Dv i) w0 F G0 (Gv i) (Lc ++ Lv i) (Tv i ++ Tc) a w →
      WP r P c (Exit.then (fun a' w' => ∃ i', (St N (Dv i') w0 F G0 (Gv i') (Lc ++ Lv i') (Tv i' ++ Tc) a' w' ∧ Pr i') ∧ m i' < m i) Q) a w) : WP r P (.loop c) Q a w :=
  c_loop (fun i a w => St N (Dv i) w0 F G0 (Gv i) (Lc ++ Lv i) (Tv i ++ Tc) a w ∧ Pr i) m i0 ⟨H, hP⟩ fun i a w hI => round i a w hI.2 hI.1
theorem loopD_end {ι : Type} {Dv : ι → List Deferred} {Tc : List (Nat × Value)} {Lc : List (Nat × Obj)} {Tv : ι → List (Nat × Value)} {Lv : ι → List (Nat × Obj)} {Gv : ι → GH} {Pr : ι → Prop} {m : ι → Nat} {i : ι} (i' : ι)
    (H : St N (Dv i') w0 F G0 (Gv i') (Lc ++ Lv i') (Tv i' ++ Tc) a w) (hP : Pr i') (hm : m i' < m i) :
    ∃ i', (St N (Dv i') w0 F G0 (Gv i') (Lc ++ Lv i') (Tv i' ++ Tc) a w ∧ Pr i') ∧ m i' < m i := ⟨i', ⟨H, hP⟩, hm⟩
theorem leaveMs {fn : Func} {R : Ending → World → Prop} {Lh Lt : OL} : ∀ (ds : List Nat) {a : Act} {w : World}, St N (mkD ds) w0 F G0 G (Lh ++ (mkL ds ++ Lt)) T a w →
    (∀ a' w', St N [] w0 F G0 G (Lh ++ Lt) T a' w' → bodyPostM (FW none) 0 P fn R .ret a' w') → bodyPostM (FW none) 0 P fn R .ret a w ∧ bodyPostM (FW none) 0 P fn R .normal a w
  | [], a, w, H, k => ⟨k a w H, k a w H⟩
  | b :: ds, a, w, H, k => by
    refine leaveM (b := b) (D := mkD ds) H Lh.length (by rw [List.getElem?_append_right (Nat.le_refl _), Nat.sub_self]; rfl) fun a' w' H' => ?_
    refine (leaveMs ds (Lh := Lh) (Lt := Lt) (H'.cast ?_) k).1
    rw [List.eraseIdx_append_of_length_le (Nat.le_refl _), Nat.sub_self]; rfl
end
end Go.Proofs.YtpmcdlhhfbobfaaDoor
