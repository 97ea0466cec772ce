/-
  The sanity check of the digest's statements: it returns true.
-/
import Derived.Test.YtgdbldkobhmbbaaDigRef
namespace Go.Proofs.Ytgdbldkobhmbbaa
open Go.ChangeShapes Go.WideShapes Go.ChangeAt Go.RowKit

theorem awake2_any (w : World) :
    Calls Try.prog 11 #[] w fun e w' => e = .returned (.bool true) ∧ w = w' := by
  have h0 : (mixI 0 0 == 0) = true := by rw [mixI_00]; rfl
  have h5 : (mixI 5 5 == 0) = true := by rw [mixI_55]; rfl
  have h1 := mixI_01
  have hs := sumI_01
  go_enter Try.func11, Try.ntmps11
  go_wp2_with (first | (go_at_call 12; refine (mix_any _ _ _).mono ?_; rintro e w' ⟨rfl, rfl⟩) | (go_at_call 14; refine (sum_any (B := 0) _ none 0 0 [] _ rfl (Nat.zero_le _) Rd.nil).mono ?_; rintro e w' ⟨rfl, rfl⟩))
  go_ret
  exact ⟨ret_bool rfl, rfl⟩
end Go.Proofs.Ytgdbldkobhmbbaa
