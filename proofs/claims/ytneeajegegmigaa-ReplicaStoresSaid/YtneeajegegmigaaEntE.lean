/-
  Equality of entries, entries that came in, entries with one field changed.
-/
import Derived.Test.YtneeajegegmigaaEntV
import Derived.Test.YtneeajegegmigaaMake
import Derived.Test.YtneeajegegmigaaRow
namespace Go.Proofs.Ytneeajegegmigaa
open Go.ChangeShapes Go.WideShapes Go.ChangeAt Go.RowKit
set_option linter.unusedVariables false

theorem int_equalIn (d : Nat) (a b : Int) (W : World) : (Op.equalIn (d + 1) 3 (.int .i64 a) (.int .i64 b)).run Try.prog W = .ok (a == b) W := by
  simp [Op.equalIn, run_underlying Try.underlying3]

theorem ent_equal (e f : En) (d : Nat) (W : World) : (Op.equalIn (d + 1 + 1) TEnt e.v f.v).run Try.prog W = .ok (decide (e = f)) W := by
  obtain ⟨k, tick, te, ce, ot, ep, fr, un, n⟩ := e
  obtain ⟨k', tick', te', ce', ot', ep', fr', un', n'⟩ := f
  have hp : Try.prog.stoodInHeld TEnt = false := by kernel_rfl
  rw [Op.equalIn]
  simp only [En.v, Sem.run_bind, run_underlying Try.underlying45, Result.andThen_ok, run_program, hp, Bool.false_eq_true, if_false]
  have pa0 : ∀ W : World, (part 3 #[.int .i64 k, .int .i64 tick, .int .i64 te, .int .i64 ce, .int .i64 ot, .int .i64 ep, .int .i64 fr, .int .i64 un, .int .i64 n] 0).run Try.prog W = .ok (.int .i64 k) W := fun _ => by kernel_rfl
  have pb0 : ∀ W : World, (part 3 #[.int .i64 k', .int .i64 tick', .int .i64 te', .int .i64 ce', .int .i64 ot', .int .i64 ep', .int .i64 fr', .int .i64 un', .int .i64 n'] 0).run Try.prog W = .ok (.int .i64 k') W := fun _ => by kernel_rfl
  have pa1 : ∀ W : World, (part 3 #[.int .i64 k, .int .i64 tick, .int .i64 te, .int .i64 ce, .int .i64 ot, .int .i64 ep, .int .i64 fr, .int .i64 un, .int .i64 n] 1).run Try.prog W = .ok (.int .i64 tick) W := fun _ => by kernel_rfl
  have pb1 : ∀ W : World, (part 3 #[.int .i64 k', .int .i64 tick', .int .i64 te', .int .i64 ce', .int .i64 ot', .int .i64 ep', .int .i64 fr', .int .i64 un', .int .i64 n'] 1).run Try.prog W = .ok (.int .i64 tick') W := fun _ => by kernel_rfl
  have pa2 : ∀ W : World, (part 3 #[.int .i64 k, .int .i64 tick, .int .i64 te, .int .i64 ce, .int .i64 ot, .int .i64 ep, .int .i64 fr, .int .i64 un, .int .i64 n] 2).run Try.prog W = .ok (.int .i64 te) W := fun _ => by kernel_rfl
  have pb2 : ∀ W : World, (part 3 #[.int .i64 k', .int .i64 tick', .int .i64 te', .int .i64 ce', .int .i64 ot', .int .i64 ep', .int .i64 fr', .int .i64 un', .int .i64 n'] 2).run Try.prog W = .ok (.int .i64 te') W := fun _ => by kernel_rfl
  have pa3 : ∀ W : World, (part 3 #[.int .i64 k, .int .i64 tick, .int .i64 te, .int .i64 ce, .int .i64 ot, .int .i64 ep, .int .i64 fr, .int .i64 un, .int .i64 n] 3).run Try.prog W = .ok (.int .i64 ce) W := fun _ => by kernel_rfl
  have pb3 : ∀ W : World, (part 3 #[.int .i64 k', .int .i64 tick', .int .i64 te', .int .i64 ce', .int .i64 ot', .int .i64 ep', .int .i64 fr', .int .i64 un', .int .i64 n'] 3).run Try.prog W = .ok (.int .i64 ce') W := fun _ => by kernel_rfl
  have pa4 : ∀ W : World, (part 3 #[.int .i64 k, .int .i64 tick, .int .i64 te, .int .i64 ce, .int .i64 ot, .int .i64 ep, .int .i64 fr, .int .i64 un, .int .i64 n] 4).run Try.prog W = .ok (.int .i64 ot) W := fun _ => by kernel_rfl
  have pb4 : ∀ W : World, (part 3 #[.int .i64 k', .int .i64 tick', .int .i64 te', .int .i64 ce', .int .i64 ot', .int .i64 ep', .int .i64 fr', .int .i64 un', .int .i64 n'] 4).run Try.prog W = .ok (.int .i64 ot') W := fun _ => by kernel_rfl
  have pa5 : ∀ W : World, (part 3 #[.int .i64 k, .int .i64 tick, .int .i64 te, .int .i64 ce, .int .i64 ot, .int .i64 ep, .int .i64 fr, .int .i64 un, .int .i64 n] 5).run Try.prog W = .ok (.int .i64 ep) W := fun _ => by kernel_rfl
  have pb5 : ∀ W : World, (part 3 #[.int .i64 k', .int .i64 tick', .int .i64 te', .int .i64 ce', .int .i64 ot', .int .i64 ep', .int .i64 fr', .int .i64 un', .int .i64 n'] 5).run Try.prog W = .ok (.int .i64 ep') W := fun _ => by kernel_rfl
  have pa6 : ∀ W : World, (part 3 #[.int .i64 k, .int .i64 tick, .int .i64 te, .int .i64 ce, .int .i64 ot, .int .i64 ep, .int .i64 fr, .int .i64 un, .int .i64 n] 6).run Try.prog W = .ok (.int .i64 fr) W := fun _ => by kernel_rfl
  have pb6 : ∀ W : World, (part 3 #[.int .i64 k', .int .i64 tick', .int .i64 te', .int .i64 ce', .int .i64 ot', .int .i64 ep', .int .i64 fr', .int .i64 un', .int .i64 n'] 6).run Try.prog W = .ok (.int .i64 fr') W := fun _ => by kernel_rfl
  have pa7 : ∀ W : World, (part 3 #[.int .i64 k, .int .i64 tick, .int .i64 te, .int .i64 ce, .int .i64 ot, .int .i64 ep, .int .i64 fr, .int .i64 un, .int .i64 n] 7).run Try.prog W = .ok (.int .i64 un) W := fun _ => by kernel_rfl
  have pb7 : ∀ W : World, (part 3 #[.int .i64 k', .int .i64 tick', .int .i64 te', .int .i64 ce', .int .i64 ot', .int .i64 ep', .int .i64 fr', .int .i64 un', .int .i64 n'] 7).run Try.prog W = .ok (.int .i64 un') W := fun _ => by kernel_rfl
  have pa8 : ∀ W : World, (part 3 #[.int .i64 k, .int .i64 tick, .int .i64 te, .int .i64 ce, .int .i64 ot, .int .i64 ep, .int .i64 fr, .int .i64 un, .int .i64 n] 8).run Try.prog W = .ok (.int .i64 n) W := fun _ => by kernel_rfl
  have pb8 : ∀ W : World, (part 3 #[.int .i64 k', .int .i64 tick', .int .i64 te', .int .i64 ce', .int .i64 ot', .int .i64 ep', .int .i64 fr', .int .i64 un', .int .i64 n'] 8).run Try.prog W = .ok (.int .i64 n') W := fun _ => by kernel_rfl
  rw [← Array.forIn_toList]
  simp only [List.forIn_cons, List.forIn_nil, ne_eq, String.reduceEq, not_false_eq_true, if_true, Sem.run_bind, Result.andThen_ok, int_equalIn, pa0, pb0]
  by_cases h0 : k = k'
  case neg => simp [h0]
  subst h0
  simp only [beq_self_eq_true, Bool.not_true, Bool.false_eq_true, if_false, Sem.run_pure, Result.andThen_ok]
  simp only [Sem.run_bind, pa1, pb1, Result.andThen_ok, int_equalIn]
  by_cases h1 : tick = tick'
  case neg => simp [h1]
  subst h1
  simp only [beq_self_eq_true, Bool.not_true, Bool.false_eq_true, if_false, Sem.run_pure, Result.andThen_ok]
  simp only [Sem.run_bind, pa2, pb2, Result.andThen_ok, int_equalIn]
  by_cases h2 : te = te'
  case neg => simp [h2]
  subst h2
  simp only [beq_self_eq_true, Bool.not_true, Bool.false_eq_true, if_false, Sem.run_pure, Result.andThen_ok]
  simp only [Sem.run_bind, pa3, pb3, Result.andThen_ok, int_equalIn]
  by_cases h3 : ce = ce'
  case neg => simp [h3]
  subst h3
  simp only [beq_self_eq_true, Bool.not_true, Bool.false_eq_true, if_false, Sem.run_pure, Result.andThen_ok]
  simp only [Sem.run_bind, pa4, pb4, Result.andThen_ok, int_equalIn]
  by_cases h4 : ot = ot'
  case neg => simp [h4]
  subst h4
  simp only [beq_self_eq_true, Bool.not_true, Bool.false_eq_true, if_false, Sem.run_pure, Result.andThen_ok]
  simp only [Sem.run_bind, pa5, pb5, Result.andThen_ok, int_equalIn]
  by_cases h5 : ep = ep'
  case neg => simp [h5]
  subst h5
  simp only [beq_self_eq_true, Bool.not_true, Bool.false_eq_true, if_false, Sem.run_pure, Result.andThen_ok]
  simp only [Sem.run_bind, pa6, pb6, Result.andThen_ok, int_equalIn]
  by_cases h6 : fr = fr'
  case neg => simp [h6]
  subst h6
  simp only [beq_self_eq_true, Bool.not_true, Bool.false_eq_true, if_false, Sem.run_pure, Result.andThen_ok]
  simp only [Sem.run_bind, pa7, pb7, Result.andThen_ok, int_equalIn]
  by_cases h7 : un = un'
  case neg => simp [h7]
  subst h7
  simp only [beq_self_eq_true, Bool.not_true, Bool.false_eq_true, if_false, Sem.run_pure, Result.andThen_ok]
  simp only [Sem.run_bind, pa8, pb8, Result.andThen_ok, int_equalIn]
  by_cases h8 : n = n'
  case neg => simp [h8]
  subst h8
  simp only [beq_self_eq_true, Bool.not_true, Bool.false_eq_true, if_false, Sem.run_pure, Result.andThen_ok]
  simp
theorem ent_eql (e f : En) (W : World) : (binOp .eql TEnt e.v f.v).run Try.prog W = .ok (.bool (decide (e = f))) W := by
  have h := ent_equal e f 9998 W
  unfold En.v at *
  simp only [binOp]
  simp [Op.equal, Op.maxDepth, h]
theorem ent_guard (op : BinOp) (x y : Operand) (a b : Array Value) (W : World) : (eqGuard op TEnt x y (.agg a) (.agg b)).run Try.prog W = .ok () W := by
  have hm : Try.prog.eqGuardType Try.prog.depth TEnt = false := by kernel_rfl
  cases op <;> simp [eqGuard, run_program, hm]

/-- An entry that came in. -/
def In_ent (w : World) (v : Value) : Prop := ∃ e : En, e.ok ∧ v = e.v
set_option maxRecDepth 100000 in
theorem in_ent {H : Type} {enc : TypeId × Value → H} {W : World} {b0 : Nat} {v : Value} {d : DataW H} {p : List MemPlace} {X : Prop} (hv : Value.okWide Try.prog W .any b0 TEnt v)
    (h : DataW.Trod enc Try.prog W 0 (fun _ => true) true TEnt v d p) (_ : X) : In_ent W v := by
  obtain ⟨cs, rfl, hsz⟩ := okWide_struct Try.underlying45 hv
  have hl : cs.toList.length = 9 := by rw [Array.length_toList, hsz]; kernel_rfl
  obtain ⟨fuel, hf⟩ := h
  obtain ⟨m, hg⟩ := open_fields Try.underlying45 (by kernel_rfl) hl hf
  obtain ⟨x0, z0, g0, t0⟩ := hg 0 _ rfl
  obtain ⟨n0, e0, _, r0⟩ := DataW.trod_int Try.underlying3 t0
  have q0 := bounds_i64 r0
  obtain ⟨x1, z1, g1, t1⟩ := hg 1 _ rfl
  obtain ⟨n1, e1, _, r1⟩ := DataW.trod_int Try.underlying3 t1
  have q1 := bounds_i64 r1
  obtain ⟨x2, z2, g2, t2⟩ := hg 2 _ rfl
  obtain ⟨n2, e2, _, r2⟩ := DataW.trod_int Try.underlying3 t2
  have q2 := bounds_i64 r2
  obtain ⟨x3, z3, g3, t3⟩ := hg 3 _ rfl
  obtain ⟨n3, e3, _, r3⟩ := DataW.trod_int Try.underlying3 t3
  have q3 := bounds_i64 r3
  obtain ⟨x4, z4, g4, t4⟩ := hg 4 _ rfl
  obtain ⟨n4, e4, _, r4⟩ := DataW.trod_int Try.underlying3 t4
  have q4 := bounds_i64 r4
  obtain ⟨x5, z5, g5, t5⟩ := hg 5 _ rfl
  obtain ⟨n5, e5, _, r5⟩ := DataW.trod_int Try.underlying3 t5
  have q5 := bounds_i64 r5
  obtain ⟨x6, z6, g6, t6⟩ := hg 6 _ rfl
  obtain ⟨n6, e6, _, r6⟩ := DataW.trod_int Try.underlying3 t6
  have q6 := bounds_i64 r6
  obtain ⟨x7, z7, g7, t7⟩ := hg 7 _ rfl
  obtain ⟨n7, e7, _, r7⟩ := DataW.trod_int Try.underlying3 t7
  have q7 := bounds_i64 r7
  obtain ⟨x8, z8, g8, t8⟩ := hg 8 _ rfl
  obtain ⟨n8, e8, _, r8⟩ := DataW.trod_int Try.underlying3 t8
  have q8 := bounds_i64 r8
  simp at e0 e1 e2 e3 e4 e5 e6 e7 e8
  subst e0 e1 e2 e3 e4 e5 e6 e7 e8
  refine ⟨⟨n0, n1, n2, n3, n4, n5, n6, n7, n8⟩, ?_, ?_⟩
  · intro x hx
    simp only [En.l, List.mem_cons, List.not_mem_nil, or_false] at hx
    rcases hx with rfl | rfl | rfl | rfl | rfl | rfl | rfl | rfl | rfl
    all_goals assumption
  · obtain ⟨l⟩ := cs
    match l, hl with
    | [y0, y1, y2, y3, y4, y5, y6, y7, y8], _ =>
      simp at g0 g1 g2 g3 g4 g5 g6 g7 g8
      subst g0 g1 g2 g3 g4 g5 g6 g7 g8
      rfl

/-- An entry with one field changed. -/
def spoilN (e : En) (m b : Int) : En :=
  if m = 0 then { e with kind := b } else if m = 1 then { e with tick := b } else if m = 2 then { e with tenant := b } else if m = 3 then { e with cell := b } else if m = 4 then { e with other := b } else if m = 5 then { e with epoch := b } else if m = 6 then { e with from_ := b } else if m = 7 then { e with until_ := b } else { e with n := b }
set_option maxRecDepth 100000 in
theorem spoilN_ok (e : En) (m b : Int) (h : e.ok) (hb : -9223372036854775808 ≤ b ∧ b ≤ 9223372036854775807) : (spoilN e m b).ok := by
  obtain ⟨k, tick, te, ce, ot, ep, fr, un, n⟩ := e
  have h' : (-9223372036854775808 ≤ k ∧ k ≤ 9223372036854775807) ∧ (-9223372036854775808 ≤ tick ∧ tick ≤ 9223372036854775807) ∧ (-9223372036854775808 ≤ te ∧ te ≤ 9223372036854775807) ∧ (-9223372036854775808 ≤ ce ∧ ce ≤ 9223372036854775807) ∧ (-9223372036854775808 ≤ ot ∧ ot ≤ 9223372036854775807) ∧ (-9223372036854775808 ≤ ep ∧ ep ≤ 9223372036854775807) ∧ (-9223372036854775808 ≤ fr ∧ fr ≤ 9223372036854775807) ∧ (-9223372036854775808 ≤ un ∧ un ≤ 9223372036854775807) ∧ (-9223372036854775808 ≤ n ∧ n ≤ 9223372036854775807) := by simpa [En.ok, En.l] using h
  unfold spoilN
  repeat' split
  all_goals
    simp only [En.ok, En.l, List.mem_cons, List.not_mem_nil, or_false, forall_eq_or_imp, forall_eq]
    simp only [and_assoc] at h' hb ⊢
    omega

end Go.Proofs.Ytneeajegegmigaa
