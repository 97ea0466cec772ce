/-
  The contracts of the reference's 'right' and 'Shape' of an entry.
-/
import Derived.Test.YtoiiblopnchljaaEntRp
namespace Go.Proofs.Ytoiiblopnchljaa
open Go.ChangeShapes Go.WideShapes Go.ChangeAt Go.RowKit
set_option linter.unusedVariables false

set_option maxHeartbeats 4000000 in
theorem right_any (e : En) (nt nc nr nv : Int) (w : World) (h1 : -4611686018427387904 ≤ nt) (h2 : nt ≤ 4611686018427387904) (h3 : -4611686018427387904 ≤ nc) (h4 : nc ≤ 4611686018427387904) (h5 : -4611686018427387904 ≤ nr) (h6 : nr ≤ 4611686018427387904) (h7 : -4611686018427387904 ≤ nv) (h8 : nv ≤ 4611686018427387904) :
    Calls Try.prog 50 #[e.v, .int .i64 nt, .int .i64 nc, .int .i64 nr, .int .i64 nv] w fun r w' => r = .returned (.bool (rightB e nt nc nr nv)) ∧ Fr No w w' := by
  have HP := fun W => places_any e nt nc nr W h1 h2 h3 h4 h5 h6
  have HN := fun W => numbers_any e nv W h7 h8
  unfold rightB
  revert HP HN
  generalize placesB e nt nc nr = p
  generalize numbersB e nv = q
  intro hp hn
  clear h1 h2 h3 h4 h5 h6 h7 h8
  have HP := Lib.hid hp
  have HN := Lib.hid hn
  clear hp hn
  obtain ⟨k, tick, te, ce, ot, ep, fr, un, n⟩ := e
  unfold En.v at *
  have FF := Lib.hid (fr_alloc w (.cells #[.int .i64 k, .int .i64 tick, .int .i64 te, .int .i64 ce, .int .i64 ot, .int .i64 ep, .int .i64 fr, .int .i64 un, .int .i64 n] TEnt))
  have BB := Lib.hid (Blk.new w TEnt #[.int .i64 k, .int .i64 tick, .int .i64 te, .int .i64 ce, .int .i64 ot, .int .i64 ep, .int .i64 fr, .int .i64 un, .int .i64 n])
  obtain ⟨c0, c1, c2, c3, c4, c5, c6, c7, c8⟩ := ent_cells BB.out
  obtain ⟨b1, hb1⟩ : ∃ b, inB 1 16 k = b := ⟨_, rfl⟩
  obtain ⟨b2, hb2⟩ : ∃ b, inB 0 1073741824 tick = b := ⟨_, rfl⟩
  simp only []
  rw [hb1, hb2]
  cases b1 <;> cases b2 <;> cases p
  all_goals
    go_enter Try.func50, Try.ntmps50
    go_wp2_with (first
      | (go_at_call 74; refine (rin_any _ _ _ _).mono ?_; rintro e w5 ⟨rfl, rfl⟩)
      | (go_at_call 75; refine (HP.out _).mono ?_; rintro e w5 ⟨rfl, f5⟩; replace FF := Lib.hid (FF.out.transNo f5); replace BB := Lib.hid (BB.out.fr f5 (fun h => h)); clear f5 c0 c1 c2 c3 c4 c5 c6 c7 c8; obtain ⟨c0, c1, c2, c3, c4, c5, c6, c7, c8⟩ := ent_cells BB.out)
      | (go_at_call 76; refine (HN.out _).mono ?_; rintro e w5 ⟨rfl, f5⟩; replace FF := Lib.hid (FF.out.transNo f5); clear f5))
    all_goals
      go_ret
      exact ⟨ret_bool rfl, FF.out⟩

theorem rShape_any (e : En) (w : World) :
    Calls Try.prog 24 #[e.v] w fun r w' => r = .returned (.bool (shapeB e)) ∧ Fr No w w' := by
  have HR := fun W => right_any e 32 16 4 30 W (by decide) (by decide) (by decide) (by decide) (by decide) (by decide) (by decide) (by decide)
  unfold shapeB
  rw [fitsB_eq]
  revert HR
  generalize rightB e 32 16 4 30 = q
  intro hr
  have HR := Lib.hid hr
  clear hr
  obtain ⟨k, tick, te, ce, ot, ep, fr, un, n⟩ := e
  unfold En.v at *
  have FF := Lib.hid (fr_alloc w (.cells #[.int .i64 k, .int .i64 tick, .int .i64 te, .int .i64 ce, .int .i64 ot, .int .i64 ep, .int .i64 fr, .int .i64 un, .int .i64 n] TEnt))
  have BB := Lib.hid (Blk.new w TEnt #[.int .i64 k, .int .i64 tick, .int .i64 te, .int .i64 ce, .int .i64 ot, .int .i64 ep, .int .i64 fr, .int .i64 un, .int .i64 n])
  obtain ⟨c0, c1, c2, c3, c4, c5, c6, c7, c8⟩ := ent_cells BB.out
  go_enter Try.func24, Try.ntmps24
  go_wp2_with fail
  refine (HR.out _).mono ?_
  rintro e w5 ⟨rfl, f5⟩
  replace FF := Lib.hid (FF.out.transNo f5)
  clear f5
  go_wp2_with fail
  go_ret
  exact ⟨ret_bool rfl, FF.out⟩
end Go.Proofs.Ytoiiblopnchljaa
