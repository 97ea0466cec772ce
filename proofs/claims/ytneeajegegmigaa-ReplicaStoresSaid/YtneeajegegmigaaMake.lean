/-
  The contracts of Mod and Between.
-/
import Derived.Test.YtneeajegegmigaaBase
namespace Go.Proofs.Ytneeajegegmigaa
open Go.ChangeShapes Go.WideShapes Go.ChangeAt Go.RowKit

theorem tmod_emod (v n : Int) (_hn : 0 < n) : (v.tmod n + n) % n = v % n := by
  rw [Int.add_emod_right]
  rcases Int.lt_or_le v 0 with h | h
  · have e : v.tmod n = -((-v) % n) := by
      have h1 : v.tmod n = -((-v).tmod n) := by rw [Int.neg_tmod, Int.neg_neg]
      rw [h1, Int.tmod_eq_emod_of_nonneg (by omega)]
    rw [e]
    have h2 : v % n = (-(-v)) % n := by rw [Int.neg_neg]
    rw [h2]
    generalize -v = u
    have := Int.emod_add_mul_ediv u n
    have h3 : -u = -(u % n) + n * (-(u / n)) := by rw [Int.mul_neg]; omega
    rw [h3, Int.add_mul_emod_self_left]
  · rw [Int.tmod_eq_emod_of_nonneg h, Int.emod_emod]

theorem mod_any (v n : Int) (w : World) (hn : 0 < n) (hn2 : n ≤ 4611686018427387904) :
    Calls Try.prog 11 #[.int .i64 v, .int .i64 n] w fun e w' => e = .returned (.int .i64 (v % n)) ∧ w = w' := by
  have hrm1 := Int.lt_tmod_of_pos v hn
  have hrm2 := Int.tmod_lt_of_pos v hn
  have hne : (n == 0) = false := by simp; omega
  have HE := Lib.hid (tmod_emod v n hn)
  go_enter Try.func11, Try.ntmps11
  go_wp2
  go_ret
  exact ⟨ret_int HE.out, rfl⟩

theorem between_any (v low high : Int) (w : World) (h1 : low ≤ high) (h2 : -1152921504606846976 ≤ low) (h3 : high ≤ 1152921504606846976) :
    Calls Try.prog 9 #[.int .i64 v, .int .i64 low, .int .i64 high] w fun e w' => e = .returned (.int .i64 (low + v % (high - low + 1))) ∧ w = w' := by
  go_enter Try.func9, Try.ntmps9
  go_wp2_with fail
  refine (mod_any _ _ _ (by omega) (by omega)).mono ?_
  rintro e w' ⟨rfl, rfl⟩
  have b1 := Int.emod_nonneg v (b := high - low + 1) (by omega)
  have b2 := Int.emod_lt_of_pos v (b := high - low + 1) (by omega)
  go_wp2_with fail
  go_ret
  exact ⟨rfl, rfl⟩
end Go.Proofs.Ytneeajegegmigaa
