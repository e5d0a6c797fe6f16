/-
  utf8.ValidString: what the library says of it, at this program.
-/
import Derived.Shelf.Unicode.ValidAny
import Derived.Test.YtpmcdlhhfbobfaaDoorVal
namespace Go.Proofs.YtpmcdlhhfbobfaaDoor
open Go.RowKit
def u8Ren : Go.Shelf.Ren := ⟨fun | 196 => 54 | 259 => 62 | n => n, fun | 0 => 0 | 3 => 3 | 4 => 4 | 5 => 5 | 9 => 9 | 12 => 12 | 46 => 93 | 53 => 136 | 119 => 123 | 138 => 125 | 139 => 126 | n => n, fun | 3 => 0 | 4 => 1 | n => n⟩
theorem u8Lays : Go.Proofs.Lays.n196 Tryd.prog u8Ren where
  mixed := by kernel_rfl
  f196 := Tryd.func54.trans (congrArg some (by kernel_rfl))
  f259 := Tryd.func62.trans (congrArg some (by kernel_rfl))
  t0 := Tryd.underlying0
  a0 := Tryd.isAgg0
  z0 := Tryd.sizeOf0
  v0 := Tryd.zeroValue0
  t3 := Tryd.underlying3
  a3 := Tryd.isAgg3
  z3 := Tryd.sizeOf3
  v3 := Tryd.zeroValue3
  t4 := Tryd.underlying4
  a4 := Tryd.isAgg4
  z4 := Tryd.sizeOf4
  v4 := Tryd.zeroValue4
  t5 := Tryd.underlying5
  a5 := Tryd.isAgg5
  z5 := Tryd.sizeOf5
  v5 := Tryd.zeroValue5
  t9 := Tryd.underlying9
  a9 := Tryd.isAgg9
  z9 := Tryd.sizeOf9
  v9 := Tryd.zeroValue9
  t12 := Tryd.underlying12
  a12 := Tryd.isAgg12
  z12 := Tryd.sizeOf12
  v12 := Tryd.zeroValue12
  t46 := Tryd.underlying93
  a46 := Tryd.isAgg93
  z46 := Tryd.sizeOf93
  v46 := Tryd.zeroValue93
  t53 := Tryd.underlying136
  a53 := Tryd.isAgg136
  z53 := Tryd.sizeOf136
  v53 := Tryd.zeroValue136
  t119 := Tryd.underlying123
  a119 := Tryd.isAgg123
  z119 := Tryd.sizeOf123
  t138 := Tryd.underlying125
  a138 := Tryd.isAgg125
  z138 := Tryd.sizeOf125
  v138 := Tryd.zeroValue125
  t139 := Tryd.underlying126
  a139 := Tryd.isAgg126
  z139 := Tryd.sizeOf126
  v139 := Tryd.zeroValue126
  g3 := by kernel_rfl
  g4 := by kernel_rfl
/-- The library's tables are there. -/
structure TabsG (G : GH) : Prop where
  first : ∀ c, c < 256 → gcell G 0 c = some (.int .u8 (Go.Lib.firstT c))
  acc : ∀ i, i < 16 → gcell G 1 (2 * i) = some (.int .u8 (Go.Lib.accLo i)) ∧ gcell G 1 (2 * i + 1) = some (.int .u8 (Go.Lib.accHi i))
theorem TabsG.at {G : GH} {w : World} (h : TabsG G) (hG : Hold G w) : Go.Lib.Utf8Tabs 0 1 w := by
  have hp : ∀ b o v, gcell G b o = some v → w.cell? ⟨b, o, none⟩ = some v := fun b o v hv => by
    unfold gcell at hv
    split at hv
    · rename_i c e f he
      simp only [World.cell?, hG b _ he]
      exact hv
    cases hv
  exact ⟨fun c hc => hp _ _ _ (h.first c hc), fun i hi => ⟨hp _ _ _ (h.acc i hi).1, hp _ _ _ (h.acc i hi).2⟩⟩
theorem vstr_spec (G : GH) (w0 : World) (hG : Hold G w0) (ht : TabsG G) (s : ByteArray) (hs : s.size ≤ 1073741824) : Calls Tryd.prog 54 #[.string s] w0 (Ret w0 G fun u G' => u = .bool (Go.Lib.validD s.data.toList) ∧ G = G') := by
  have h := Any.utf8_ValidString u8Lays s w0 (by omega) (ht.at hG); refine Calls.mono h ?_; rintro e w' ⟨rfl, hb⟩; refine ⟨_, G, rfl, hb, ⟨fun _ _ h => h, fun _ _ h => .inl h, fun k o hk => ?_⟩, rfl, rfl⟩; have h1 := hG k o hk; rw [hb.block k (Array.getElem?_eq_some_iff.1 h1).1]; exact h1
end Go.Proofs.YtpmcdlhhfbobfaaDoor
