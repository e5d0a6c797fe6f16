/-
  From what the form reads to a row of numbers of 16 bits.
-/
import Derived.Test.YtpmcdlhhfbobfaaDoorRdg
import Derived.Test.YtpmcdlhhfbobfaaDoorTab
namespace Go.Proofs.YtpmcdlhhfbobfaaDoor
open Go.ChangeShapes Go.RowKit Go.Deep
section
variable {H : Type} {enc : TypeId × Value → H} {W : World} {base : Nat} {spare : Nat → Bool} {held : Bool}
abbrev U16 : Type := {z : Int // 0 ≤ z ∧ z < 65536}
theorem rd_u16 {n : Nat} {cs : List Value} {D : DataW H} {Pl : List MemPlace} (h : DataW.trod enc Tryd.prog W base spare held n 53 cs = some (D, Pl)) : ∃ z : U16, RepRow (heapG W) (u16Dat z.1) cs ∧ szR (u16Dat z.1) + 1 ≤ 8 * Rows.uptoBulk D := by
  obtain ⟨k, rfl, e, hw⟩ := DataW.trod_int Tryd.underlying53 h
  have hk : 0 ≤ k ∧ k < 65536 := by
    have : 0 ≤ k ∧ k ≤ 65535 := by simpa [Lit.wf, IntKind.min, IntKind.max, IntKind.signed, IntKind.bits] using hw
    omega
  refine ⟨⟨k, hk⟩, ?_, ?_⟩
  · simp only [u16Dat, RepRow]; exact ⟨_, _, rfl, by simp [RepV, Value.oneCell'], rfl⟩
  have hD : D = .lit (.int .u16 k) := by simpa using congrArg Prod.fst e
  subst hD
  simp [u16Dat, szR, szD, Rows.uptoBulk]
theorem rd_u16s {n : Nat} {cs : List Value} {x : DataW H × List MemPlace} (h : DataW.trod enc Tryd.prog W base spare held n 22 cs = some x) : ∃ (l : List Int) (v : Value), cs = [v] ∧ (∀ z ∈ l, 0 ≤ z ∧ z < 65536) ∧ RepV (heapG W) (.sl 1 (l.map u16Dat)) v := by
  obtain ⟨rs, v, rfl, h1, -⟩ := rd_slice (sz := 1) (dat := fun z : U16 => u16Dat z.1) (by decide) Tryd.underlying22 (by kernel_rfl) h (fun n cs' D Pl h _ => rd_u16 h); refine ⟨rs.map (·.1), v, rfl, fun z hz => ?_, ?_⟩
  · obtain ⟨y, -, rfl⟩ := List.mem_map.1 hz; exact y.2
  rw [List.map_map]; exact h1
end
end Go.Proofs.YtpmcdlhhfbobfaaDoor
