/-
  The contract of the reference's 'numbers' of an entry.
-/
import Derived.Test.YtoiiblopnchljaaEntR
import Derived.Test.YtoiiblopnchljaaEntV
namespace Go.Proofs.Ytoiiblopnchljaa
open Go.ChangeShapes Go.WideShapes Go.ChangeAt Go.RowKit
set_option linter.unusedVariables false

/-- Whether a kind uses what a byte says. -/
def hasI (k m : Int) : Bool := hasN k (UInt8.ofNat m.toNat)
theorem rhasI_any (k m : Int) (w : World) (h : 0 ≤ m ∧ m < 256) :
    Calls Try.prog 90 #[.int .i64 k, .int .u8 m] w fun e w' => e = .returned (.bool (hasI k m)) ∧ Fr No w w' := by
  have := rhas_any k (UInt8.ofNat m.toNat) w
  have hm : bv (UInt8.ofNat m.toNat) = .int .u8 m := by
    unfold bv
    congr 1
    rw [UInt8.toNat_ofNat']
    omega
  rw [hm] at this
  exact this
theorem hasI_t (k : Int) : hasN k 116 = hasI k 116 := rfl
theorem hasI_c (k : Int) : hasN k 99 = hasI k 99 := rfl
theorem hasI_C (k : Int) : hasN k 67 = hasI k 67 := rfl
theorem hasI_o (k : Int) : hasN k 111 = hasI k 111 := rfl
theorem hasI_r (k : Int) : hasN k 114 = hasI k 114 := rfl
theorem hasI_e (k : Int) : hasN k 101 = hasI k 101 := rfl
theorem hasI_w (k : Int) : hasN k 119 = hasI k 119 := rfl
theorem hasI_v (k : Int) : hasN k 118 = hasI k 118 := rfl
theorem hasI_b (k : Int) : hasN k 98 = hasI k 98 := rfl
theorem hasI_m (k : Int) : hasN k 109 = hasI k 109 := rfl
theorem hasI_n (k : Int) : hasN k 110 = hasI k 110 := rfl

set_option maxHeartbeats 4000000 in
theorem numbers_any (e : En) (nv : Int) (w : World) (h1 : -4611686018427387904 ≤ nv) (h2 : nv ≤ 4611686018427387904) :
    Calls Try.prog 76 #[e.v, .int .i64 nv] w fun r w' => r = .returned (.bool (numbersB e nv)) ∧ Fr No w w' := by
  obtain ⟨k, tick, te, ce, ot, ep, fr, un, n⟩ := e
  unfold En.v
  have hcase : ∃ b1 b2 : Bool, hasI k 101 = b1 ∧ hasI k 119 = b2 := ⟨_, _, rfl, rfl⟩
  obtain ⟨b1, b2, e1, e2⟩ := hcase
  obtain ⟨p, hp⟩ : ∃ p : Bool, inB 0 1073741824 fr = p := ⟨_, rfl⟩
  obtain ⟨q, hq⟩ : ∃ q : Bool, (fr == 0) = q := ⟨_, rfl⟩
  have FF := Lib.hid (fr_alloc w (.cells #[.int .i64 k, .int .i64 tick, .int .i64 te, .int .i64 ce, .int .i64 ot, .int .i64 ep, .int .i64 fr, .int .i64 un, .int .i64 n] TEnt))
  have BB := Lib.hid (Blk.new w TEnt #[.int .i64 k, .int .i64 tick, .int .i64 te, .int .i64 ce, .int .i64 ot, .int .i64 ep, .int .i64 fr, .int .i64 un, .int .i64 n])
  obtain ⟨c0, c1, c2, c3, c4, c5, c6, c7, c8⟩ := ent_cells BB.out
  cases b1 <;> cases b2 <;> cases p <;> cases q
  all_goals
    go_enter Try.func76, Try.ntmps76
    go_wp2_with (first
      | (go_at_call 90; refine (rhasI_any k _ _ (by decide)).mono ?_; rintro e w5 ⟨rfl, f5⟩; replace FF := Lib.hid (FF.out.transNo f5); replace BB := Lib.hid (BB.out.fr f5 (fun h => h)); clear f5 c0 c1 c2 c3 c4 c5 c6 c7 c8; obtain ⟨c0, c1, c2, c3, c4, c5, c6, c7, c8⟩ := ent_cells BB.out)
      | (go_at_call 74; refine (rin_any _ _ _ _).mono ?_; rintro e w5 ⟨rfl, rfl⟩))
    all_goals
      go_ret
      refine ⟨ret_bool ?_, FF.out⟩
      simp only [numbersB, hasI_e, hasI_w, hasI_v, hasI_b, hasI_m, hasI_n]
      simp_all
end Go.Proofs.Ytoiiblopnchljaa
