/-
  The sanity check of the disk's statements.
-/
import Derived.Test.YtjhghcdofhpcgaaDisk
import Derived.Test.YtjhghcdofhpcgaaSame
namespace Go.Proofs.Ytjhghcdofhpcgaa
open Go.ChangeShapes Go.WideShapes Go.ChangeAt Go.RowKit

/-- A disk in blocks that were made since w0. -/
structure DS (w0 w : World) (F : Nat → Prop) (d : Nat) (xs : List UInt8) (k : Nat) : Prop where
  it : DiskAt w F d xs k
  new : ∀ i, F i → w0.heap.size ≤ i
  fr : Fr No w0 w

theorem DS.to {w0 w w' : World} {F : Nat → Prop} {d k k' : Nat} {xs xs' : List UInt8} (h : DS w0 w F d xs k) (t : DiskTo w F d xs' k' w') :
    ∃ F', DS w0 w' F' d xs' k' ∧ Fr F w w' ∧ ∀ i, F' i → F i ∨ w.heap.size ≤ i := by
  obtain ⟨F', h1, h2, h3⟩ := t
  refine ⟨F', ⟨h1, fun i hi => ?_, h.fr.transNew h3 h.new⟩, h3, h2⟩
  rcases h2 i hi with h4 | h4
  · exact h.new i h4
  · exact Nat.le_trans h.fr.size h4
theorem DS.no {w0 w w' : World} {F : Nat → Prop} {d k : Nat} {xs : List UInt8} (h : DS w0 w F d xs k) (hf : Fr No w w') : DS w0 w' F d xs k := ⟨h.it.frNo hf, h.new, h.fr.transNo hf⟩

theorem awake7_any (w : World) :
    Calls Try.prog 9 #[] w fun e w' => e = .returned (.bool true) ∧ Fr No w w' := by
  go_enter Try.func9, Try.ntmps9
  go_wp2_with fail
  refine (disk_new _).mono ?_
  rintro e w1 ⟨rfl, hd, hf⟩
  have D1 : Hid (DS w w1 (fun i => i = w.heap.size) w.heap.size [] 0) := ⟨hd, fun i hi => Nat.le_of_eq hi.symm, hf⟩
  clear hd hf
  go_wp2_with fail
  refine (disk_append _ _ _ _ _ (D1.out.no (fr_alloc _ _)).it _ _ _ [1] _ (fun h => by cases h) (Rd.new w1 [.int .u8 1] 5 rfl) rfl (by decide)).mono ?_
  rintro e w2 ⟨rfl, t2⟩
  obtain ⟨F2, d2, -, -⟩ := (D1.out.no (fr_alloc _ _)).to t2
  have D2 := Lib.hid d2
  clear t2 d2 D1
  go_wp2_with fail
  refine (disk_sync _ _ _ _ _ D2.out.it).mono ?_
  rintro e w3 ⟨rfl, t3⟩
  obtain ⟨F3, d3, -, -⟩ := D2.out.to t3
  have D3 := Lib.hid d3
  clear t3 d3 D2
  go_wp2_with fail
  refine (disk_append _ _ _ _ _ (D3.out.no (fr_alloc _ _)).it _ _ _ [2, 3] _ (fun h => by cases h) (Rd.new w3 [.int .u8 2, .int .u8 3] 5 rfl) rfl (by decide)).mono ?_
  rintro e w4 ⟨rfl, t4⟩
  obtain ⟨F4, d4, -, -⟩ := (D3.out.no (fr_alloc _ _)).to t4
  have D4 := Lib.hid d4
  clear t4 d4 D3
  go_wp2_with fail
  refine (disk_crash _ _ _ _ _ D4.out.it _).mono ?_
  rintro e w5 ⟨rfl, t5⟩
  obtain ⟨F5, d5, -, -⟩ := D4.out.to t5
  have d5' : DS w w5 F5 w.heap.size [1, 2] 2 := d5
  have D5 := Lib.hid d5'
  clear t5 d5 d5' D4
  go_wp2_with fail
  refine (disk_bytes _ _ _ _ _ D5.out.it).mono ?_
  rintro e w6 ⟨A6, c6, rfl, o6, f6⟩
  have O6 := Lib.hid o6
  have D6 := Lib.hid (D5.out.no f6)
  clear o6 f6 D5
  go_wp2_with fail
  refine (same_bytes _ _ _ _ _ _ [1, 2] [1, 2] _ _ _ (O6.out.len).2 rfl (O6.out.frNo (fr_alloc _ _)).rd (fun h => by cases h) rfl (Rd.new w6 [.int .u8 1, .int .u8 2] 5 rfl)).mono ?_
  rintro e w7 ⟨rfl, rfl⟩
  go_wp2_with fail
  refine (disk_durable _ _ _ _ _ (D6.out.no (fr_alloc _ _)).it).mono ?_
  rintro e w8 ⟨rfl, rfl⟩
  go_wp2_with fail
  go_ret
  exact ⟨ret_bool rfl, (D6.out.no (fr_alloc _ _)).fr⟩
end Go.Proofs.Ytjhghcdofhpcgaa
