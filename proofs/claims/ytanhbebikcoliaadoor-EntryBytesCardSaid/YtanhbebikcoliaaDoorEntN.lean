/-
  The table of names of kinds, and the contracts of both Names.
-/
import Derived.Test.YtanhbebikcoliaaDoorG2
import Derived.OpenShut
import Derived.Lib.LaidTab
import Derived.ProofKit
namespace Go.Proofs.YtanhbebikcoliaaDoor
open Go.ChangeShapes Go.WideShapes Go.ChangeAt Go.RowKit
set_option linter.unusedVariables false

/-- The names of the kinds from 1 on. -/
def names16 : List (List UInt8) := [[112, 108, 97, 99, 101], [103, 114, 97, 110, 116], [99, 117, 116], [115, 116, 97, 110, 100, 98, 121], [114, 101, 97, 100, 121], [109, 105, 103, 114, 97, 116, 101], [97, 98, 97, 110, 100, 111, 110], [115, 104, 101, 100], [109, 111, 100, 101], [119, 97, 110, 116], [114, 117, 110, 115], [112, 114, 111, 118, 101], [101, 118, 97, 99, 117, 97, 116, 101], [101, 120, 112, 97, 110, 100], [99, 111, 110, 116, 114, 97, 99, 116], [110, 111, 116, 101]]
/-- The name of a kind. -/
def nameN (k : Int) : List UInt8 := if 1 ≤ k ∧ k ≤ 16 then names16.getD (k - 1).toNat [] else []

/-- The table of names holds them. -/
def TabN (w : World) : Prop := ∀ (i : Nat) (s : List UInt8), names16[i]? = some s → w.cell? ⟨0, i, none⟩ = some (.string ⟨s.toArray⟩)
theorem TabN.lt {w : World} (h : TabN w) : 0 < w.heap.size := by
  have h0 := h 0 _ rfl
  rcases Nat.eq_zero_or_pos w.heap.size with he | he
  · unfold World.cell? at h0
    simp [Array.getElem?_eq_none (show w.heap.size ≤ 0 by omega)] at h0
  · exact he
theorem TabN.fr {F : Nat → Prop} {w w' : World} (h : TabN w) (hf : Fr F w w') (hn : ¬ F 0) : TabN w' := fun i s hs => (hf.cell (p := ⟨0, i, none⟩) h.lt hn).trans (h i s hs)
theorem TabN.frNo {w w' : World} (h : TabN w) (hf : Fr No w w') : TabN w' := h.fr hf fun h => h
theorem TabN.fr_new {w w' : World} {B : Nat} (h : TabN w) (hf : Fr (fun i => B ≤ i) w w') (hB : 0 < B) : TabN w' := h.fr hf fun h => by omega

/-- A table of texts that a row lists holds them. -/
theorem tabS_of_head {P : Program} {W : World} {name : String} {ss : List (List UInt8)} {rest : List (String × DataW Unit)} {g : Nat} {t e : TypeId} {n : Nat}
    (hg : P.globalNamed name = some g) (hty : (P.globals[g]?).map (·.type) = some t) (ht : P.underlying t = some (.array n e)) (he : P.underlying e = some .string) (hce : P.cellsOf e = 1)
    (h : laidMet P ((name, .agg (ss.map fun s => .lit (.string s))) :: rest) W) : ∀ (i : Nat) (s : List UInt8), ss[i]? = some s → W.cell? ⟨g, i, none⟩ = some (.string ⟨s.toArray⟩) := by
  obtain ⟨ps, ⟨g', t', cs, fuel, p, q, hg', ht', hvar, hd, _, _⟩, _⟩ := h
  obtain rfl := Option.some.inj (hg.symm.trans hg')
  obtain rfl := Option.some.inj (hty.symm.trans ht')
  intro i s hs
  rw [World.var?_cell hg hvar i]
  obtain ⟨xs, m, _, ex, hlen, hl, hel⟩ := DataW.trod_array ht hd
  have e3 : xs.map (·.1) = ss.map fun s => (DataW.lit (.string s) : DataW Unit) := (DataW.agg.inj (Prod.mk.inj ex).1).symm
  have hx : (xs.map (·.1))[i]? = some (.lit (.string s)) := by rw [e3, List.getElem?_map, hs]; rfl
  rw [List.getElem?_map, Option.map_eq_some_iff] at hx
  obtain ⟨x, hxi, hx1⟩ := hx
  have hi : i < n := by rw [← hl]; exact (List.getElem?_eq_some_iff.1 hxi).1
  have hk := hel i hi
  rw [hxi, hce] at hk
  obtain ⟨s', hc, hxx, _⟩ := DataW.trod_string he hk
  rw [hxx] at hx1
  have hs' : s'.data.toList = s := by
    simp only at hx1
    injection hx1 with hx1
    injection hx1
  have h1 : cs.toList[i]? = some (.string s') := by
    have := congrArg (·[0]?) hc
    simpa [List.getElem?_take, List.getElem?_drop] using this
  rw [Array.getElem?_toList] at h1
  rw [h1]
  subst hs'
  rfl

set_option maxHeartbeats 2000000 in
theorem name_any (k : Int) (w : World) (hT : TabN w) :
    Calls Tryd.prog 22 #[.int .i64 k] w fun e w' => e = .returned (.string ⟨(nameN k).toArray⟩) ∧ w = w' := by
  have hcase : k = 1 ∨ k = 2 ∨ k = 3 ∨ k = 4 ∨ k = 5 ∨ k = 6 ∨ k = 7 ∨ k = 8 ∨ k = 9 ∨ k = 10 ∨ k = 11 ∨ k = 12 ∨ k = 13 ∨ k = 14 ∨ k = 15 ∨ k = 16 ∨ k < 1 ∨ 16 < k := by omega
  rcases hcase with rfl | rfl | rfl | rfl | rfl | rfl | rfl | rfl | rfl | rfl | rfl | rfl | rfl | rfl | rfl | rfl | hk | hk
  · have t := hT 0 _ rfl
    clear hT
    go_enter Tryd.func22, Tryd.ntmps22
    go_wp2_with fail
    go_ret
    exact ⟨rfl, rfl⟩
  · have t := hT 1 _ rfl
    clear hT
    go_enter Tryd.func22, Tryd.ntmps22
    go_wp2_with fail
    go_ret
    exact ⟨rfl, rfl⟩
  · have t := hT 2 _ rfl
    clear hT
    go_enter Tryd.func22, Tryd.ntmps22
    go_wp2_with fail
    go_ret
    exact ⟨rfl, rfl⟩
  · have t := hT 3 _ rfl
    clear hT
    go_enter Tryd.func22, Tryd.ntmps22
    go_wp2_with fail
    go_ret
    exact ⟨rfl, rfl⟩
  · have t := hT 4 _ rfl
    clear hT
    go_enter Tryd.func22, Tryd.ntmps22
    go_wp2_with fail
    go_ret
    exact ⟨rfl, rfl⟩
  · have t := hT 5 _ rfl
    clear hT
    go_enter Tryd.func22, Tryd.ntmps22
    go_wp2_with fail
    go_ret
    exact ⟨rfl, rfl⟩
  · have t := hT 6 _ rfl
    clear hT
    go_enter Tryd.func22, Tryd.ntmps22
    go_wp2_with fail
    go_ret
    exact ⟨rfl, rfl⟩
  · have t := hT 7 _ rfl
    clear hT
    go_enter Tryd.func22, Tryd.ntmps22
    go_wp2_with fail
    go_ret
    exact ⟨rfl, rfl⟩
  · have t := hT 8 _ rfl
    clear hT
    go_enter Tryd.func22, Tryd.ntmps22
    go_wp2_with fail
    go_ret
    exact ⟨rfl, rfl⟩
  · have t := hT 9 _ rfl
    clear hT
    go_enter Tryd.func22, Tryd.ntmps22
    go_wp2_with fail
    go_ret
    exact ⟨rfl, rfl⟩
  · have t := hT 10 _ rfl
    clear hT
    go_enter Tryd.func22, Tryd.ntmps22
    go_wp2_with fail
    go_ret
    exact ⟨rfl, rfl⟩
  · have t := hT 11 _ rfl
    clear hT
    go_enter Tryd.func22, Tryd.ntmps22
    go_wp2_with fail
    go_ret
    exact ⟨rfl, rfl⟩
  · have t := hT 12 _ rfl
    clear hT
    go_enter Tryd.func22, Tryd.ntmps22
    go_wp2_with fail
    go_ret
    exact ⟨rfl, rfl⟩
  · have t := hT 13 _ rfl
    clear hT
    go_enter Tryd.func22, Tryd.ntmps22
    go_wp2_with fail
    go_ret
    exact ⟨rfl, rfl⟩
  · have t := hT 14 _ rfl
    clear hT
    go_enter Tryd.func22, Tryd.ntmps22
    go_wp2_with fail
    go_ret
    exact ⟨rfl, rfl⟩
  · have t := hT 15 _ rfl
    clear hT
    go_enter Tryd.func22, Tryd.ntmps22
    go_wp2_with fail
    go_ret
    exact ⟨rfl, rfl⟩
  · have t1 : decide (k < 1) = true := by simp; omega
    have hu : nameN k = [] := by unfold nameN; rw [if_neg (by omega)]
    rw [hu]
    clear hu hT
    go_enter Tryd.func22, Tryd.ntmps22
    go_wp2_with fail
    go_ret
    exact ⟨rfl, rfl⟩
  · have t1 : decide (k < 1) = false := by simp; omega
    have t2 : decide (16 < k) = true := by simp; omega
    have hu : nameN k = [] := by unfold nameN; rw [if_neg (by omega)]
    rw [hu]
    clear hu hT
    go_enter Tryd.func22, Tryd.ntmps22
    go_wp2_with fail
    go_ret
    exact ⟨rfl, rfl⟩

end Go.Proofs.YtanhbebikcoliaaDoor
