/-
  Regions that draw the order of their operations, of which some write slots that others read before; the beginning of a string.
-/
import Derived.Test.YtpmcdlhhfbobfaaDoorDj
import Derived.Test.YtpmcdlhhfbobfaaDoorUt
namespace Go.Proofs.YtpmcdlhhfbobfaaDoor
open Go.RowKit
section
variable {N : Nat} {D : List Deferred} {w0 : World} {F : Nat → Prop} {G0 G : GH} {L : OL} {T Xs : List (Nat × Value)}
variable {r : Option Nat} {P : Program} {Q : Exit → Act → World → Prop} {l : List Oper} {a a' : Act} {w w' : World}
/-- A slot, what it holds, the operation on which that hangs, and whether that one is done. -/
abbrev Ent : Type := Nat × Value × Nat × Bool
def EntOk (ent : List Ent) (S : Nat → Bool) (a : Act) : Prop := ∀ e ∈ ent, S e.2.2.1 = e.2.2.2 → a.tmps[e.1]? = some e.2.1
theorem c_drawV {id : Nat} (hm : P.follows .mixedOrders = true) (clo : List (List Nat)) (hk : drawOk l clo = true) (ent : List Ent) (H : St N D w0 F G0 G L [] a w) (h0 : EntOk ent (fun _ => false) a)
    (hstep : allI (fun i o => ∀ S a w, S i = false → (∀ j ∈ clo.getD i [], S j = true) → (∀ j, j < l.length → i ∈ clo.getD j [] → S j = false) → St N D w0 F G0 G L [] a w → EntOk ent S a →
      WL r P l.toArray (fun x a' w' => x = .normal ∧ St N D w0 F G0 G L [] a' w' ∧ EntOk ent (setT S i) a') [o] a w) 0 l)
    (hend : ∀ S a w, (∀ i, i < l.length → S i = true) → St N D w0 F G0 G L [] a w → EntOk ent S a → Q .normal a w) : WP r P (.region id l.toArray true) Q a w := by
  refine c_draw hm clo hk (fun S a w => St N D w0 F G0 G L [] a w ∧ EntOk ent S a) ⟨H.move H.hp.drew, h0⟩ ?_ ?_
  · rintro i o S a w ho ⟨HS, hE⟩ hSi hclo hdesc
    have h := allI_get hstep i o ho
    rw [Nat.zero_add] at h
    exact h S a w hSi hclo hdesc HS hE
  · rintro S a w hall ⟨HS, hE⟩
    exact hend S a w hall HS hE
theorem EntOk.at {ent : List Ent} {S : Nat → Bool} {a : Act} (h : EntOk ent S a) (k : Nat) {t : Nat} {v : Value} {j : Nat} {b : Bool} (hk : ent[k]? = some (t, v, j, b)) (hS : S j = b) : a.tmps[t]? = some v := h _ (List.mem_of_getElem? hk) hS
theorem drawV_val {ent : List Ent} {S : Nat → Bool} {i d : Nat} {v : Value} (hok : ent.all (fun e => Nat.beq e.1 d == Nat.beq e.2.2.1 i) = true) (hv : ∀ e ∈ ent, e.1 = d → e.2.2.2 = true → e.2.1 = v)
    (HT : St N D w0 F G0 G L [] a w) (Hb : St N D w0 F G0 G L (Xs ++ full N a) a w) (hE : EntOk ent S a) (H : St N D w0 F G0 G L ((d, v) :: (Xs ++ full N a)) a' w') : St N D w0 F G0 G L [] a' w' ∧ EntOk ent (setT S i) a' := by
  have hsame : ∀ t, t ≠ d → a'.tmps[t]? = a.tmps[t]? := by
    intro t ht
    by_cases hlt : t < N
    · have h1 : ∃ u, lk (Xs ++ full N a) t = some u := by
        rw [lk_append]
        cases lk Xs t with
        | some u => exact ⟨u, rfl⟩
        | none => exact ⟨_, lk_full a hlt⟩
      obtain ⟨u, hu⟩ := h1
      rw [Hb.get t u hu, H.get t u (by rw [lk_cons_ne (Ne.symm ht)]; exact hu)]
    · rw [Array.getElem?_eq_none (by rw [H.asz]; omega), Array.getElem?_eq_none (by rw [Hb.asz]; omega)]
  refine ⟨⟨H.asz, (fun t u ht => by cases ht), H.dfr, H.hp⟩, fun e he hS => ?_⟩
  have hb := List.all_eq_true.1 hok e he
  by_cases hd : e.1 = d
  · have h1 : Nat.beq e.1 d = true := by rw [hd]; exact Nat.beq_refl d
    rw [h1] at hb
    have h2 : e.2.2.1 = i := Nat.eq_of_beq_eq_true (by simpa using hb)
    rw [h2] at hS
    have h3 : e.2.2.2 = true := by rw [← hS]; exact if_pos rfl
    rw [hd, hv e he hd h3]
    exact H.get d v (lk_cons_self _ _ _)
  · have h1 : Nat.beq e.1 d = false := beq_no hd
    rw [h1] at hb
    have h2 : ¬ e.2.2.1 = i := by
      intro e2
      rw [e2, Nat.beq_refl] at hb; cases hb
    rw [hsame _ hd]
    exact hE e he (by rw [← hS]; exact (if_neg h2).symm)
/-- The beginning of a string. -/
theorem s_strTo {ops : Array Oper} {rest : List Oper} {d : Nat} {ty : TypeId} {pos : String} {aft : Array Edge} {g : Option (Nat × Bool)} {t : TypeId} {x y : Operand} {s : ByteArray} {ky : IntKind} {p : Int} (hi : Nat) (ht : P.underlying t = some .string) (H : St N D w0 F G0 G L T a w) (hw : Region.wanted ⟨some d, .slice t x none (some y) none, ty, pos, aft, g⟩ (yielded ops a.tmps) = true) (hx : ev T x = some (.string s)) (hy : ev T y = some (.int ky p)) (hp : p = (hi : Int)) (h1 : hi ≤ s.size) (hd : Nat.blt d N = true)
    (k : ∀ a', St N D w0 F G0 G L ((d, .string (s.extract 0 hi)) :: T) a' w → WL r P ops Q rest a' w) : WL r P ops Q (⟨some d, .slice t x none (some y) none, ty, pos, aft, g⟩ :: rest) a w := by
  subst hp
  have hr := run_slice_string_h (P := P) w t s ht ky (hi : Int) (by omega) (by omega)
  rw [Int.toNat_natCast] at hr
  refine wl_value (v := .string (s.extract 0 hi)) (w' := w) hw rfl ?_ (k _ (H.put hd _ H.hp))
  simp only [execOp, H.ev hx, Option.map_some, Option.map_none, H.ev hy, Sem.run_bind, run_sliceAt_string w t _ _ _ _ ht, hr, Result.andThen_ok, Sem.run_pure]
end
end Go.Proofs.YtpmcdlhhfbobfaaDoor
