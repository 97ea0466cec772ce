/-
  Rows of integers that came in; scripts of three numbers each.
-/
import Derived.Test.YtneeajegegmigaaApp
import Derived.Test.YtneeajegegmigaaRow
namespace Go.Proofs.Ytneeajegegmigaa
open Go.ChangeShapes Go.WideShapes Go.ChangeAt Go.RowKit
set_option linter.unusedVariables false
/-- A row of integers that came in, as a list. -/
theorem IsRow.openI {w : World} {a : Option Addr} {len cap : Nat} {zs : List Int} (h : IsRow .i64 w a len cap zs) :
    ∃ l : List Int, l.length = len ∧ len ≤ maxLen ∧ len ≤ cap ∧ (a = none → len = 0) ∧ Rd w w.heap.size a (l.map iv) ∧ ∀ n ∈ l, -9223372036854775808 ≤ n ∧ n ≤ 9223372036854775807 := by
  rcases h with ⟨rfl, rfl, rfl, rfl⟩ | ⟨x, rfl, hl, hm, hz, hc, hw⟩
  · exact ⟨[], rfl, Nat.zero_le _, Nat.le_refl _, fun _ => rfl, .inl rfl, fun n hn => by cases hn⟩
  · refine ⟨zs.take len, by rw [List.length_take]; omega, by omega, hl, (fun h => by cases h), ?_, fun n hn => ?_⟩
    · by_cases h0 : zs.length = 0
      · exact .inl (by rw [List.length_eq_zero_iff.1 h0]; simp)
      · obtain ⟨b, off, spot⟩ := x
        have hc0 := hc 0 (by omega)
        have hspot : spot = none := by simpa [Addr.add] using World.cell?_spot hc0
        subst hspot
        have hall : Rd w w.heap.size (some ⟨b, off, none⟩) (zs.map iv) := by
          refine .inr ⟨b, off, rfl, ?_, fun j hj => ?_⟩
          · have : (⟨b, off, none⟩ : Addr).add 0 = ⟨b, off, none⟩ := by simp [Addr.add]
            rw [this] at hc0
            unfold World.cell? at hc0
            rcases Nat.lt_or_ge b w.heap.size with hlt | hge
            · exact hlt
            · rw [Array.getElem?_eq_none hge] at hc0
              cases hc0
          · have hj' : j < zs.length := by simpa using hj
            have := hc j hj'
            have e : (⟨b, off, none⟩ : Addr).add j = ⟨b, off + j, none⟩ := by unfold Addr.add; split <;> simp_all
            rw [e] at this
            rw [this]
            simp [List.getElem?_eq_getElem hj']
        rw [List.map_take]
        exact hall.take len
    · have := bounds_i64 (hw n (List.mem_of_mem_take hn))
      omega

end Go.Proofs.Ytneeajegegmigaa
