/-
  The contracts of both Reads of an entry.
-/
import Derived.Test.YtneeajegegmigaaEntF
import Derived.Test.YtneeajegegmigaaEntRt
import Derived.Test.YtneeajegegmigaaIntP
import Derived.Test.YtneeajegegmigaaWirTakeR
namespace Go.Proofs.Ytneeajegegmigaa
open Go.ChangeShapes Go.WideShapes Go.ChangeAt Go.RowKit
set_option linter.unusedVariables false

abbrev T9 : TypeId := 97
abbrev enZero : En := ⟨0, 0, 0, 0, 0, 0, 0, 0, 0⟩
/-- What Read returns: an entry, the number of its bytes, the error. -/
structure RdT where
  e : En
  k : Nat
  x : Int
def finE (t : IntsT) : RdT := if t.e = 0 then (if shapeB (En.of t.q) then ⟨En.of t.q, t.k, 0⟩ else ⟨enZero, 0, 18⟩) else ⟨enZero, 0, t.e⟩
def readE (l : List UInt8) : RdT := finE (intsG 9 l 0 [])

/-- The numbers that have been read, and zeros. -/
def nums9 (acc : List Int) : Array Value := ((acc ++ List.replicate (9 - acc.length) 0).map iv).toArray
theorem nums9_get (acc : List Int) (k : Nat) (hk : k < 9) (hl : acc.length = k) : (nums9 acc)[k]? = some (.int .i64 0) := by
  unfold nums9
  rw [List.getElem?_toArray, List.getElem?_map, List.getElem?_append_right (by omega), List.getElem?_replicate]
  rw [if_pos (by omega)]
  rfl
theorem nums9_set (acc : List Int) (x : Int) (h : acc.length < 9) : (nums9 acc).setIfInBounds acc.length (.int .i64 x) = nums9 (acc ++ [x]) := by
  unfold nums9
  rw [List.setIfInBounds_toArray, List.length_append, List.length_singleton]
  congr 1
  obtain ⟨m, hm⟩ : ∃ m, 9 - acc.length = m + 1 := ⟨8 - acc.length, by omega⟩
  rw [hm, show 9 - (acc.length + 1) = m from by omega, List.replicate_succ, List.map_append, List.map_cons, List.map_append, List.map_append]
  rw [List.set_append_right _ _ (by rw [List.length_map]; exact Nat.le_refl _), List.length_map, Nat.sub_self, List.set_cons_zero, List.append_assoc]
  rfl

theorem ent_fill {Z : World} {q : Nat} (e : En) (h : Blk Z q TEnt #[.int .i64 0, .int .i64 0, .int .i64 0, .int .i64 0, .int .i64 0, .int .i64 0, .int .i64 0, .int .i64 0, .int .i64 0]) : Blk (World.setCell (World.setCell (World.setCell (World.setCell (World.setCell (World.setCell (World.setCell (World.setCell (World.setCell Z ⟨q, 0, none⟩ (.int .i64 e.kind)) ⟨q, 1, none⟩ (.int .i64 e.tick)) ⟨q, 2, none⟩ (.int .i64 e.tenant)) ⟨q, 3, none⟩ (.int .i64 e.cell)) ⟨q, 4, none⟩ (.int .i64 e.other)) ⟨q, 5, none⟩ (.int .i64 e.epoch)) ⟨q, 6, none⟩ (.int .i64 e.from_)) ⟨q, 7, none⟩ (.int .i64 e.until_)) ⟨q, 8, none⟩ (.int .i64 e.n)) q TEnt #[.int .i64 e.kind, .int .i64 e.tick, .int .i64 e.tenant, .int .i64 e.cell, .int .i64 e.other, .int .i64 e.epoch, .int .i64 e.from_, .int .i64 e.until_, .int .i64 e.n] := by
  refine Blk.conv (Blk.set_ (Blk.set_ (Blk.set_ (Blk.set_ (Blk.set_ (Blk.set_ (Blk.set_ (Blk.set_ (Blk.set_ h 0 (.int .i64 e.kind)) 1 (.int .i64 e.tick)) 2 (.int .i64 e.tenant)) 3 (.int .i64 e.cell)) 4 (.int .i64 e.other)) 5 (.int .i64 e.epoch)) 6 (.int .i64 e.from_)) 7 (.int .i64 e.until_)) 8 (.int .i64 e.n)) ?_
  simp only [List.setIfInBounds_toArray, List.set_cons_zero, List.set_cons_succ]
theorem ent_fill_fr {w Z : World} {q : Nat} (e : En) (h : Fr No w Z) (hq : w.heap.size ≤ q) : Fr No w (World.setCell (World.setCell (World.setCell (World.setCell (World.setCell (World.setCell (World.setCell (World.setCell (World.setCell Z ⟨q, 0, none⟩ (.int .i64 e.kind)) ⟨q, 1, none⟩ (.int .i64 e.tick)) ⟨q, 2, none⟩ (.int .i64 e.tenant)) ⟨q, 3, none⟩ (.int .i64 e.cell)) ⟨q, 4, none⟩ (.int .i64 e.other)) ⟨q, 5, none⟩ (.int .i64 e.epoch)) ⟨q, 6, none⟩ (.int .i64 e.from_)) ⟨q, 7, none⟩ (.int .i64 e.until_)) ⟨q, 8, none⟩ (.int .i64 e.n)) := (Fr.setCell (Fr.setCell (Fr.setCell (Fr.setCell (Fr.setCell (Fr.setCell (Fr.setCell (Fr.setCell (Fr.setCell h (p := ⟨q, 0, none⟩) (.inr hq) (.int .i64 e.kind)) (p := ⟨q, 1, none⟩) (.inr hq) (.int .i64 e.tick)) (p := ⟨q, 2, none⟩) (.inr hq) (.int .i64 e.tenant)) (p := ⟨q, 3, none⟩) (.inr hq) (.int .i64 e.cell)) (p := ⟨q, 4, none⟩) (.inr hq) (.int .i64 e.other)) (p := ⟨q, 5, none⟩) (.inr hq) (.int .i64 e.epoch)) (p := ⟨q, 6, none⟩) (.inr hq) (.int .i64 e.from_)) (p := ⟨q, 7, none⟩) (.inr hq) (.int .i64 e.until_)) (p := ⟨q, 8, none⟩) (.inr hq) (.int .i64 e.n))
theorem list9 (l : List Int) (h : l.length = 9) : ∃ a0 a1 a2 a3 a4 a5 a6 a7 a8, l = [a0, a1, a2, a3, a4, a5, a6, a7, a8] := by
  match l, h with
  | [a0, a1, a2, a3, a4, a5, a6, a7, a8], _ => exact ⟨a0, a1, a2, a3, a4, a5, a6, a7, a8, rfl⟩

/-- What Read leaves. -/
def RdTo (w : World) (t : RdT) (r : Ending) (w' : World) : Prop := r = .returned (.tuple #[t.e.v, .int .i64 (t.k : Int), .int .i64 t.x]) ∧ Fr No w w'

end Go.Proofs.Ytneeajegegmigaa
