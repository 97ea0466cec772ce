/-
  Light.
-/
import Derived.Test.YtanhbebikcoliaaDoorEntA
import Derived.Test.YtanhbebikcoliaaDoorG5
import Derived.Test.YtanhbebikcoliaaDoorMd
import Derived.Test.YtanhbebikcoliaaDoorG11
namespace Go.Proofs.YtanhbebikcoliaaDoor
open Go.ChangeShapes Go.WideShapes Go.ChangeAt Go.RowKit
set_option linter.unusedVariables false
set_option maxRecDepth 100000 in
theorem light_any (A : Option Addr) (n cp : Nat) (w : World) : Calls Tryd.prog 8 #[.slice A n cp] w fun r w' => r = .returned (.bool (decide ((n : Int) ≤ 200))) ∧ w = w' := by
  go_enter Tryd.func8, Tryd.ntmps8
  go_wp2_with fail
  go_ret
  exact ⟨ret_bool rfl, rfl⟩
/-- The bounds of a made configuration. -/
def CfB (c : Cf) : Prop := c.nt ≤ 16 ∧ c.nc ≤ 16 ∧ c.rg ≤ 3 ∧ c.nv ≤ 16
theorem IsRow.lsIn {w : World} {a : Option Addr} {len cap : Nat} {zs : List Int} (h : IsRow .i64 w a len cap zs) : LsIn w a len := by
  rcases h with ⟨rfl, rfl, rfl, rfl⟩ | ⟨x, rfl, hl, hm, hz, hc, hw⟩
  · exact .inl rfl
  · by_cases h0 : len = 0
    · exact .inl h0
    · obtain ⟨b, off, spot⟩ := x
      have hc0 := hc 0 (by omega)
      have hspot : spot = none := by simpa [Addr.add] using World.cell?_spot hc0
      subst hspot
      refine .inr ⟨b, off, rfl, ?_, fun i hi => ⟨zs.getD i 0, ?_⟩⟩
      · have : (⟨b, off, none⟩ : Addr).add 0 = ⟨b, off, none⟩ := by simp [Addr.add]
        rw [this] at hc0
        unfold World.cell? at hc0
        rcases Nat.lt_or_ge b w.heap.size with hlt | hge
        · exact hlt
        · rw [Array.getElem?_eq_none hge] at hc0
          cases hc0
      · have := hc i (by omega)
        rwa [show (⟨b, off, none⟩ : Addr).add i = ⟨b, off + i, none⟩ from by simp only [Addr.add]; split <;> simp_all] at this
end Go.Proofs.YtanhbebikcoliaaDoor
