/-
  Equality of entries of a log.
-/
import Derived.Test.YtneeajegegmigaaJrn
import Derived.Test.YtneeajegegmigaaEntE
namespace Go.Proofs.Ytneeajegegmigaa
open Go.ChangeShapes Go.WideShapes Go.ChangeAt Go.RowKit
set_option linter.unusedVariables false

theorem lg_equal (x y : Lg) (d : Nat) (W : World) : (Op.equalIn (d + 1 + 1 + 1) TLg x.v y.v).run Try.prog W = .ok (decide (x = y)) W := by
  obtain ⟨t, ⟨k, tick, te, ce, ot, ep, fr, un, n⟩⟩ := x
  obtain ⟨t', ⟨k', tick', te', ce', ot', ep', fr', un', n'⟩⟩ := y
  have hp : Try.prog.stoodInHeld TLg = false := by kernel_rfl
  have he := ent_equal ⟨k, tick, te, ce, ot, ep, fr, un, n⟩ ⟨k', tick', te', ce', ot', ep', fr', un', n'⟩ d
  rw [Op.equalIn]
  simp only [Lg.v, Sem.run_bind, run_underlying Try.underlying48, Result.andThen_ok, run_program, hp, Bool.false_eq_true, if_false]
  have pa0 : ∀ W : World, (part 3 #[.int .i64 t, .int .i64 k, .int .i64 tick, .int .i64 te, .int .i64 ce, .int .i64 ot, .int .i64 ep, .int .i64 fr, .int .i64 un, .int .i64 n] 0).run Try.prog W = .ok (.int .i64 t) W := fun _ => by kernel_rfl
  have pb0 : ∀ W : World, (part 3 #[.int .i64 t', .int .i64 k', .int .i64 tick', .int .i64 te', .int .i64 ce', .int .i64 ot', .int .i64 ep', .int .i64 fr', .int .i64 un', .int .i64 n'] 0).run Try.prog W = .ok (.int .i64 t') W := fun _ => by kernel_rfl
  have pa1 : ∀ W : World, (part TEnt #[.int .i64 t, .int .i64 k, .int .i64 tick, .int .i64 te, .int .i64 ce, .int .i64 ot, .int .i64 ep, .int .i64 fr, .int .i64 un, .int .i64 n] 1).run Try.prog W = .ok (En.v ⟨k, tick, te, ce, ot, ep, fr, un, n⟩) W := fun _ => by kernel_rfl
  have pb1 : ∀ W : World, (part TEnt #[.int .i64 t', .int .i64 k', .int .i64 tick', .int .i64 te', .int .i64 ce', .int .i64 ot', .int .i64 ep', .int .i64 fr', .int .i64 un', .int .i64 n'] 1).run Try.prog W = .ok (En.v ⟨k', tick', te', ce', ot', ep', fr', un', n'⟩) W := fun _ => by kernel_rfl
  rw [← Array.forIn_toList]
  simp only [List.forIn_cons, List.forIn_nil, ne_eq, String.reduceEq, not_false_eq_true, if_true, Sem.run_bind, Result.andThen_ok, int_equalIn, pa0, pb0]
  by_cases h0 : t = t'
  case neg => simp [h0]
  subst h0
  simp only [beq_self_eq_true, Bool.not_true, Bool.false_eq_true, if_false, Sem.run_pure, Result.andThen_ok]
  simp only [Sem.run_bind, pa1, pb1, Result.andThen_ok, he]
  by_cases h1 : (⟨k, tick, te, ce, ot, ep, fr, un, n⟩ : En) = ⟨k', tick', te', ce', ot', ep', fr', un', n'⟩
  case neg => simp [h1]
  rw [h1]
  simp
theorem lg_neq (x y : Lg) (W : World) : (binOp .neq TLg x.v y.v).run Try.prog W = .ok (.bool (!decide (x = y))) W := by
  have h := lg_equal x y 9997 W
  unfold Lg.v at *
  simp only [binOp]
  simp [Op.equal, Op.maxDepth, h]
theorem lg_eql (x y : Lg) (W : World) : (binOp .eql TLg x.v y.v).run Try.prog W = .ok (.bool (decide (x = y))) W := by
  have h := lg_equal x y 9997 W
  unfold Lg.v at *
  simp only [binOp]
  simp [Op.equal, Op.maxDepth, h]
theorem lg_guard (op : BinOp) (x y : Operand) (a b : Array Value) (W : World) : (eqGuard op TLg x y (.agg a) (.agg b)).run Try.prog W = .ok () W := by
  have hm : Try.prog.eqGuardType Try.prog.depth TLg = false := by kernel_rfl
  cases op <;> simp [eqGuard, run_program, hm]
end Go.Proofs.Ytneeajegegmigaa
