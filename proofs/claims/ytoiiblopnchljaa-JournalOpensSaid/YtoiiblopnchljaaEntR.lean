/-
  The contracts of the reference's shapes of entries.
-/
import Derived.Test.YtoiiblopnchljaaEntP
import Derived.Test.YtoiiblopnchljaaFr
import Derived.Deep.RegionHeld3
import Derived.Deep.DeepCutAuto
import Derived.IntWalk
namespace Go.Proofs.Ytoiiblopnchljaa
open Go.ChangeShapes Go.WideShapes Go.ChangeAt Go.RowKit
set_option linter.unusedVariables false

theorem rin_any (n lo hi : Int) (w : World) :
    Calls Try.prog 74 #[.int .i64 n, .int .i64 lo, .int .i64 hi] w fun e w' => e = .returned (.bool (inB lo hi n)) ∧ w = w' := by
  by_cases h1 : lo ≤ n
  · by_cases h2 : n ≤ hi
    · go_enter Try.func74, Try.ntmps74
      go_wp2_with fail
      go_ret
      exact ⟨ret_bool (by simp [inB, h1, h2]), rfl⟩
    · go_enter Try.func74, Try.ntmps74
      go_wp2_with fail
      go_ret
      exact ⟨ret_bool (by simp [inB, h1, h2]), rfl⟩
  · go_enter Try.func74, Try.ntmps74
    go_wp2_with fail
    go_ret
    exact ⟨ret_bool (by unfold inB; rw [decide_eq_false (by omega)]; rfl), rfl⟩

theorem usesN_len (k : Int) : (usesN k).length ≤ 6 := by
  have hcase : k = 1 ∨ k = 2 ∨ k = 3 ∨ k = 4 ∨ k = 5 ∨ k = 6 ∨ k = 7 ∨ k = 8 ∨ k = 9 ∨ k = 10 ∨ k = 11 ∨ k = 12 ∨ k = 13 ∨ k = 14 ∨ k = 15 ∨ k = 16 ∨ (k < 1 ∨ 16 < k) := by omega
  rcases hcase with rfl | rfl | rfl | rfl | rfl | rfl | rfl | rfl | rfl | rfl | rfl | rfl | rfl | rfl | rfl | rfl | hk
  iterate 16 · decide
  have hu : usesN k = [63] := by unfold usesN; repeat (first | rw [if_neg (by omega)] | rfl)
  rw [hu]
  decide

set_option maxHeartbeats 2000000 in
theorem uses_any (k : Int) (w : World) :
    Calls Try.prog 100 #[.int .i64 k] w fun e w' => e = .returned (.string ⟨(usesN k).toArray⟩) ∧ Fr No w w' := by
  have hcase : k = 1 ∨ k = 2 ∨ k = 3 ∨ k = 4 ∨ k = 5 ∨ k = 6 ∨ k = 7 ∨ k = 8 ∨ k = 9 ∨ k = 10 ∨ k = 11 ∨ k = 12 ∨ k = 13 ∨ k = 14 ∨ k = 15 ∨ k = 16 ∨ k < 1 ∨ 16 < k := by omega
  rcases hcase with rfl | rfl | rfl | rfl | rfl | rfl | rfl | rfl | rfl | rfl | rfl | rfl | rfl | rfl | rfl | rfl | hk | hk
  iterate 16
    · go_enter Try.func100, Try.ntmps100
      go_wp2_with fail
      go_ret
      exact ⟨rfl, (Fr.refl _ _).alloc _⟩
  · have hu : usesN k = [63] := by unfold usesN; repeat (first | rw [if_neg (by omega)] | rfl)
    rw [hu]
    clear hu
    have t1 : decide (k < 1) = true := by simp; omega
    go_enter Try.func100, Try.ntmps100
    go_wp2_with fail
    go_ret
    exact ⟨rfl, (Fr.refl _ _).alloc _⟩
  · have hu : usesN k = [63] := by unfold usesN; repeat (first | rw [if_neg (by omega)] | rfl)
    rw [hu]
    clear hu
    have t1 : decide (k < 1) = false := by simp; omega
    have t2 : decide (17 ≤ k) = true := by simp; omega
    go_enter Try.func100, Try.ntmps100
    go_wp2_with fail
    go_ret
    exact ⟨rfl, (Fr.refl _ _).alloc _⟩

theorem ba_get (l : List UInt8) (j : Nat) (x : UInt8) (h : j < (⟨l.toArray⟩ : ByteArray).size) (hx : l[j]? = some x) : (⟨l.toArray⟩ : ByteArray)[j] = x := by
  have h1 : j < l.length := by
    have h2 : j < l.toArray.size := h
    rwa [List.size_toArray] at h2
  rw [List.getElem?_eq_getElem h1] at hx
  injection hx

theorem rhas_any (k : Int) (c : UInt8) (w : World) :
    Calls Try.prog 90 #[.int .i64 k, bv c] w fun e w' => e = .returned (.bool (hasN k c)) ∧ Fr No w w' := by
  have hll := usesN_len k
  have hC := fun W => uses_any k W
  unfold hasN
  revert hC hll
  generalize usesN k = l
  intro hll hC
  have HC := Lib.hid hC
  clear hC
  go_enter Try.func90, Try.ntmps90
  go_wp2_with fail
  refine (HC.out _).mono ?_
  rintro e w1 ⟨rfl, f1⟩
  have F1 := Lib.hid f1
  clear f1
  go_wp2_with fail
  go_loopw [6] (fun i wr => ∃ j : Nat, i = .int .i64 j ∧ j ≤ l.length ∧ (∀ m, (hm : m < j) → l[m]? ≠ some c) ∧ wr = w1) (fun i _ => l.length - (intOf i).toNat)
  case atStart => exact ⟨0, rfl, Nat.zero_le _, fun m hm => absurd hm (Nat.not_lt_zero _), rfl⟩
  case round =>
    obtain ⟨j, rfl, hj, hno, rfl⟩ := hrel
    have HNO := Lib.hid hno
    clear hno
    by_cases hlt : j < l.length
    · obtain ⟨x, hx⟩ : ∃ x, l[j]? = some x := ⟨_, List.getElem?_eq_getElem hlt⟩
      have hg := ba_get l j x (by show j < l.toArray.size; rwa [List.size_toArray]) hx
      have HX := Lib.hid hx
      clear hx
      by_cases hxc : x = c
      · subst hxc
        go_wp2_with fail
        go_ret
        refine ⟨ret_bool ?_, F1.out⟩
        exact (List.contains_iff_mem.2 (List.mem_of_getElem? HX.out)).symm
      · have hq : ((x.toNat : Int) == (c.toNat : Int)) = false := by
          simp only [beq_eq_false_iff_ne, ne_eq, Int.natCast_inj]
          exact fun h => hxc (UInt8.toNat_inj.1 h)
        go_wp2_with fail
        go_roundw
        case rel =>
          refine ⟨j + 1, by go_num, by omega, fun m hm => ?_, trivial⟩
          rcases Nat.lt_or_ge m j with h | h
          · exact HNO.out m h
          · obtain rfl : m = j := by omega
            rw [HX.out]
            exact fun h => hxc (Option.some.inj h)
        case measure => simp [intOf]; omega
    · go_wp2_with fail
      go_ret
      refine ⟨ret_bool ?_, F1.out⟩
      symm
      rw [Bool.eq_false_iff]
      intro h
      rw [List.contains_iff_mem] at h
      obtain ⟨m, hm, he⟩ := List.getElem_of_mem h
      exact HNO.out m (by omega) (by rw [List.getElem?_eq_getElem hm, he])
end Go.Proofs.Ytoiiblopnchljaa
