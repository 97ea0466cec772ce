/-
  The contract of the reference's SameBytes.
-/
import Derived.Test.YtoiiblopnchljaaFr
namespace Go.Proofs.Ytoiiblopnchljaa
open Go.ChangeShapes Go.WideShapes Go.ChangeAt Go.RowKit

theorem same_bytes (A A2 : Option Addr) (n c m c2 : Nat) (l l2 : List UInt8) (B B2 : Nat) (w : World) (hA : A = none → n = 0) (hl : l.length = n) (hr : Rd w B A (l.map bv)) (hA2 : A2 = none → m = 0) (hl2 : l2.length = m) (hr2 : Rd w B2 A2 (l2.map bv)) :
    Calls Try.prog 37 #[.slice A n c, .slice A2 m c2] w fun e w' => e = .returned (.bool (l == l2)) ∧ w = w' := by
  have hcv1 := run_string_rd (P := Try.prog) w 52 9 5 Try.underlying52 Try.underlying5 Try.underlying9 (c := c) hA hl hr
  have hcv2 := run_string_rd (P := Try.prog) w 52 9 5 Try.underlying52 Try.underlying5 Try.underlying9 (c := c2) hA2 hl2 hr2
  clear hA hl hr hA2 hl2 hr2
  go_enter Try.func37, Try.ntmps37
  go_wp2
  go_ret
  refine ⟨ret_bool ?_, rfl⟩
  simp
end Go.Proofs.Ytoiiblopnchljaa
