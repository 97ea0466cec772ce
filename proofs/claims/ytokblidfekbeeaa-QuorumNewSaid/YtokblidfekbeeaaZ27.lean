/-
  Several texts in one: QvP, LgEq, SLg.
-/
import Derived.Test.YtokblidfekbeeaaZ18
import Derived.Test.YtokblidfekbeeaaZ20
import Derived.Test.YtokblidfekbeeaaZ12
import Derived.Test.YtokblidfekbeeaaZ21
/- The plain law of the steps of a script. -/
namespace Go.Proofs.Ytokblidfekbeeaa
set_option linter.unusedVariables false

def stepKind (wh : Int) : Int := if wh % 16 ≤ 1 then 1 else if wh % 16 ≤ 4 then 2 else if wh % 16 = 5 then 3 else if wh % 16 = 6 then 5 else if wh % 16 = 7 then 6 else if wh % 16 = 8 then 7 else 4
def stepNum (wh num : Int) (net : Nat) : Int := if stepKind wh = 4 ∨ stepKind wh = 5 ∨ stepKind wh = 6 then num % (max net 1 : Nat) else num
def stepAct (q : Qs) (a : JAct) : Qs := q.act (stepKind a.which) (a.a % q.n) (stepNum a.which a.b q.net.length) (noteE (a.b % 1000))
def StepTo (q : Qs) (a : JAct) (q' : Qs) : Prop := if a.b.tmod 5 = 0 then ∃ k, Flushes a.a (stepAct q a) 0 q' k else q' = stepAct q a
inductive PlayTo (q : Qs) : List JAct → Qs → Prop
  | nil : PlayTo q [] q
  | snoc (l : List JAct) (q1 : Qs) (a : JAct) (q2 : Qs) : PlayTo q l q1 → StepTo q1 a q2 → PlayTo q (l ++ [a]) q2
section
variable {q q' q1 q2 q3 : Qs} {g : Gh} {a : JAct} {l : List JAct} {s : Nat} {up T : Int} {k : Nat} {L : List Lg}
theorem act_n (q : Qs) (a b c : Int) (e : En) : (q.act a b c e).n = q.n := by
  unfold Qs.act
  split
  · rfl
  · split
    · rfl
    · split
      · rfl
      · split
        · rfl
        · split
          · rfl
          · split
            · rfl
            · split <;> rfl
theorem Flushes.n {c c' : Nat} (hf : Flushes up q c q' c') : q'.n = q.n := by
  induction hf with
  | stop => rfl
  | skip q c m l q' c' hk hm h0 hn ih => exact ih
  | give q c m l q' c' hk hm h0 hn ih => exact ih
theorem stepAct_n (q : Qs) (a : JAct) : (stepAct q a).n = q.n := act_n _ _ _ _ _
theorem StepTo.n (h : StepTo q a q') : q'.n = q.n := by
  unfold StepTo at h
  split at h
  · obtain ⟨k, hf⟩ := h
    exact hf.n.trans (stepAct_n q a)
  · rw [h, stepAct_n]
theorem PlayTo.n (h : PlayTo q l q') : q'.n = q.n := by
  induction h with
  | nil => rfl
  | snoc l q1 a q2 h1 h2 ih => exact h2.n.trans ih
theorem note_ok (b : Int) : (noteE (b % 1000)).ok := noteE_ok _ (Int.emod_nonneg _ (by decide)) (Int.emod_lt_of_pos _ (by decide))
theorem StepTo.inv (h : StepTo q a q') (hI : QInv q g) : ∃ g', QInv q' g' ∧ Ext g g' ∧ q.done <+: q'.done := by
  obtain ⟨g1, h1, e1, d1⟩ := hI.act (stepKind a.which) (a.a % q.n) (stepNum a.which a.b q.net.length) (noteE (a.b % 1000)) (note_ok a.b)
  unfold StepTo at h
  split at h
  · obtain ⟨k, hf⟩ := h
    obtain ⟨g2, h2, e2, d2⟩ := QInv.flush hf h1
    exact ⟨g2, h2, e1.trans e2, d1.trans d2⟩
  · rw [h]
    exact ⟨g1, h1, e1, d1⟩
theorem PlayTo.inv (h : PlayTo q l q') : ∀ {g : Gh}, QInv q g → ∃ g', QInv q' g' ∧ Ext g g' ∧ q.done <+: q'.done := by
  induction h with
  | nil => exact fun hI => ⟨_, hI, Ext.refl _, List.prefix_refl _⟩
  | snoc l q1 a q2 h1 h2 ih =>
    intro g hI
    obtain ⟨g1, a1, b1, c1⟩ := ih hI
    obtain ⟨g2, a2, b2, c2⟩ := h2.inv a1
    exact ⟨g2, a2, b1.trans b2, c1.trans c2⟩
theorem StepTo.bd (h : StepTo q a q') (hb : QBd q s) (hok : QsOk q) : QBd q' (s + 1) ∧ QsOk q' := by
  have h1 : QBd (stepAct q a) (s + 1) := hb.act hok _ _ _ _ (note_ok a.b)
  have h2 : QsOk (stepAct q a) := hok.act _ _ _ _ (note_ok a.b)
  unfold StepTo at h
  split at h
  · obtain ⟨k, hf⟩ := h
    exact QBd.flush hf h1 h2
  · rw [h]
    exact ⟨h1, h2⟩
theorem PlayTo.bd (h : PlayTo q l q') : ∀ {s : Nat}, QBd q s → QsOk q → QBd q' (s + l.length) ∧ QsOk q' := by
  induction h with
  | nil => exact fun h1 h2 => ⟨h1, h2⟩
  | snoc l q1 a q2 h1 h2 ih =>
    intro s hb hok
    obtain ⟨a1, b1⟩ := ih hb hok
    obtain ⟨a2, b2⟩ := h2.bd a1 b1
    rw [List.length_append, List.length_singleton]
    exact ⟨a2, b2⟩
theorem PlayTo.nil_eq {l : List JAct} (h : PlayTo q l q') (hl : l = []) : q' = q := by
  induction h with
  | nil => rfl
  | snoc l q1 a q2 h1 h2 ih => simp at hl
theorem PlayTo.one' {l : List JAct} (h : PlayTo q l q') (hl : l = [a]) : StepTo q a q' := by
  induction h with
  | nil => cases hl
  | snoc l q1 b q2 h1 h2 ih =>
    have h3 : l ++ [b] = ([] : List JAct) ++ [a] := hl
    obtain ⟨e1, e2⟩ := List.append_inj' h3 rfl
    injection e2 with e2
    rw [h1.nil_eq e1] at h2
    rw [← e2]
    exact h2
theorem PlayTo.one (h : PlayTo q [a] q') : StepTo q a q' := h.one' rfl
theorem flush_zero {c c' : Nat} (hf : Flushes 0 q c q' c') : c < 5000 → q'.net = [] ∧ q'.rs = q.rs ∧ q'.n = q.n ∧ q'.done = q.done := by
  induction hf with
  | stop q c h => exact fun hc => ⟨h.resolve_right (by omega), rfl, rfl, rfl⟩
  | skip q c m l q' c' hk hm h0 hn ih => exact fun hc => ih hc
  | give q c m l q' c' hk hm h0 hn ih => exact absurd (.inl (by simp)) h0
/-- A leader that has all, and what it proposes. -/
theorem propose_plain (hI4 : QInv q2 g) (hz4 : ZB up k L T q2) (hnet4 : q2.net = []) (hU4 : MajU up q2.n) (hlen : L.length ≤ 200) {n3 : Int} {e : En} (he : e.ok) (hsh : shapeB e = true) :
    (q2.rs k).role = 3 ∧ q2.actX 2 (k : Int) n3 e = 0 ∧ ∀ q3 c3, Flushes up (q2.act 2 (k : Int) n3 e) 0 q3 c3 → ZB up k (L ++ [⟨T, e⟩]) T q3 ∧ (q3.rs k).role = 3 ∧ q3.n = q2.n ∧ q3.done = (L ++ [(⟨T, e⟩ : Lg)]).map (·.e) := by
  obtain ⟨hr4, hall⟩ := hz4.done hnet4 hU4
  have hk4 : k < q2.n := hz4.za.kn
  obtain ⟨hx, hz5, hw5⟩ := hz4.prop hI4 hU4 hnet4 hlen n3 he hsh
  refine ⟨hr4, hx, fun q3 c3 f3 => ?_⟩
  obtain ⟨g5, hI5, -, -⟩ := hI4.act 2 (k : Int) n3 e he
  have hU5 : MajU up (q2.act 2 (k : Int) n3 e).n := by rw [act_n]; exact hU4
  obtain ⟨hz6, hnet6⟩ := hz5.flush f3 hI5 hU5 hw5
  obtain ⟨g6, hI6, -, -⟩ := QInv.flush f3 hI5
  have hqn3 : q3.n = q2.n := f3.n.trans (act_n _ _ _ _ _)
  have hU6 : MajU up q3.n := by rw [hqn3]; exact hU4
  obtain ⟨hr6, hall6⟩ := hz6.done hnet6 hU6
  have hk6 : k < q3.n := by omega
  obtain ⟨l6, l6c, l6d⟩ := hI6.done
  have hp6 := hI6.inv.lead_has hk6 hr6 (hz6.maj hU6) l6c
  rw [hz6.za.log] at hp6
  obtain ⟨o1, o2, o3⟩ := hI6.ok.each k hk6
  have hst : q3.n < 2 * (q3.rs k).stores (L ++ [(⟨T, e⟩ : Lg)]).length q3.n := by
    rw [stores_cnt, if_pos (by omega)]
    have hmono : cntB (fun i => decide (bitU up i)) q3.n ≤ cntB (fun i => i == (q3.rs k).id || decide ((L ++ [(⟨T, e⟩ : Lg)]).length ≤ (q3.rs k).mtch i)) q3.n := by
      refine cntB_mono fun i hi hb => ?_
      have hb : bitU up i := by simpa using hb
      by_cases ei : i = k
      · simp [ei, o2]
      · have := (hall6 i hi ei hb).1
        simp only [Bool.or_eq_true, decide_eq_true_eq]
        exact .inr (by omega)
    have hU6' : q3.n < 2 * cntB (fun i => decide (bitU up i)) q3.n := hU6
    omega
  have hco := hz6.co hr6 (lastT_snoc _ _) hst
  have hmost := hI6.most k hk6
  have hle6 := hp6.length_le
  rw [l6d, List.length_map] at hmost
  rw [List.length_append, List.length_singleton] at hco hle6
  have heq : l6 = L ++ [(⟨T, e⟩ : Lg)] := hp6.eq_of_length (by rw [List.length_append, List.length_singleton]; omega)
  exact ⟨hz6, hr6, hqn3, by rw [l6d, heq]⟩
/-- Which replica leads. -/
def leadG (rs : Nat → Rs) : Nat → Int
  | 0 => -1
  | k + 1 => if (rs k).role = 3 ∧ (leadG rs k < 0 ∨ (rs (leadG rs k).toNat).js.term < (rs k).js.term) then (k : Int) else leadG rs k
theorem leadG_range (rs : Nat → Rs) : ∀ k : Nat, leadG rs k = -1 ∨ (0 ≤ leadG rs k ∧ leadG rs k < k) := by
  intro k
  induction k with
  | zero => exact .inl rfl
  | succ k ih =>
    simp only [leadG]
    split
    · exact .inr ⟨by omega, by omega⟩
    · rcases ih with h | h
      · exact .inl h
      · exact .inr ⟨h.1, by omega⟩
theorem leadG_zero {rs : Nat → Rs} (h0 : (rs 0).role = 3) : ∀ n : Nat, 0 < n → (∀ j, j < n → j ≠ 0 → (rs j).js.term ≤ (rs 0).js.term) → leadG rs n = 0 := by
  intro n
  induction n with
  | zero => exact fun h => absurd h (Nat.lt_irrefl 0)
  | succ k ih =>
    intro _ hj
    by_cases hk : k = 0
    · subst hk
      simp [leadG, h0]
    · have hi := ih (by omega) fun j h1 h2 => hj j (by omega) h2
      simp only [leadG, hi]
      have := hj k (by omega) hk
      rw [if_neg]
      simp only [Int.toNat_zero]
      omega
/-- The sanity check of chapter 10. -/
theorem awake_plain {n1 n2 : Int} {e1 : En} (he1 : e1.ok) {c1 : Nat} (f1 : Flushes 7 ((quoNew 3).act 1 0 n1 e1) 0 q1 c1) :
    (quoNew 3).actX 1 0 n1 e1 = 0 ∧ q1.actX 2 0 n2 (noteE 4) = 0 ∧ q1.n = 3 ∧ ∀ q2 c2, Flushes 7 (q1.act 2 0 n2 (noteE 4)) 0 q2 c2 → leadG q2.rs q2.n = 0 ∧ q2.done = [noteE 4] ∧ q2.n = 3 := by
  have hI : QInv (quoNew 3) gh0 := QInv.new (by decide) (by decide)
  have hU : MajU 7 3 := by decide +kernel
  have hb7 : ∀ j, j < 3 → bitU 7 j := by decide +kernel
  obtain ⟨g1, hI1, -, -⟩ := hI.act 1 0 n1 e1 he1
  obtain ⟨hz1, hw1⟩ := ZB.start (up := 7) (k := 0) hI (by decide) (hb7 0 (by decide)) rfl (fun j _ _ => Better.refl _) (fun j _ _ _ => Int.le_refl _) (by decide) (by decide) n1 e1
  obtain ⟨hz2, hnet2⟩ := hz1.flush f1 hI1 (by rw [act_n]; exact hU) hw1
  obtain ⟨g2, hI2, -, -⟩ := QInv.flush f1 hI1
  have hn1 : q1.n = 3 := f1.n.trans (act_n _ _ _ _ _)
  obtain ⟨hr, hx, hq⟩ := propose_plain (n3 := n2) (e := noteE 4) hI2 hz2 hnet2 (by rw [hn1]; exact hU) (by decide) (noteE_ok 4 (by decide) (by decide)) (noteE_shape 4 (by decide) (by decide))
  refine ⟨rfl, hx, hn1, fun q2 c2 f2 => ?_⟩
  obtain ⟨hz3, hr3, hn3, hd3⟩ := hq q2 c2 f2
  refine ⟨leadG_zero hr3 _ (by omega) fun j hj hj0 => ?_, hd3, by omega⟩
  have := (hz3.oth j hj hj0 (hb7 j (by omega))).1
  rw [hz3.tk]
  exact this
/-- What a replica knows to be committed is a beginning of what has been committed. -/
theorem QInv.commit_pre (hI : QInv q g) (hk : k < q.n) : ((q.rs k).js.log.take (q.rs k).commit).map (·.e) <+: q.done := by
  obtain ⟨l, hc, hd⟩ := hI.done
  have hm := hI.most k hk
  rw [hd] at hm ⊢
  rw [List.length_map] at hm
  have hpre : (q.rs k).js.log.take (q.rs k).commit <+: l := by
    rcases hI.inv.chain (hI.inv.c9 k hk) hc with h | h
    · exact h
    · have h1 := h.length_le
      have h2 : ((q.rs k).js.log.take (q.rs k).commit).length ≤ l.length := by rw [List.length_take]; omega
      rw [h.eq_of_length (by omega)]
      exact List.prefix_refl _
  obtain ⟨r, hr⟩ := hpre
  exact ⟨r.map (·.e), by rw [← List.map_append, hr]⟩
end
end Go.Proofs.Ytokblidfekbeeaa
/- Equality of entries of a log. -/
namespace Go.Proofs.Ytokblidfekbeeaa
open Go.ChangeShapes Go.WideShapes Go.ChangeAt Go.RowKit
set_option linter.unusedVariables false

theorem lg_equal (x y : Lg) (d : Nat) (W : World) : (Op.equalIn (d + 1 + 1 + 1) TLg x.v y.v).run Try.prog W = .ok (decide (x = y)) W := by
  obtain ⟨t, ⟨k, tick, te, ce, ot, ep, fr, un, n⟩⟩ := x
  obtain ⟨t', ⟨k', tick', te', ce', ot', ep', fr', un', n'⟩⟩ := y
  have hp : Try.prog.stoodInHeld TLg = false := by kernel_rfl
  have he := ent_equal ⟨k, tick, te, ce, ot, ep, fr, un, n⟩ ⟨k', tick', te', ce', ot', ep', fr', un', n'⟩ d
  rw [Op.equalIn]
  simp only [Lg.v, Sem.run_bind, run_underlying Try.underlying45, Result.andThen_ok, run_program, hp, Bool.false_eq_true, if_false]
  have pa0 : ∀ W : World, (part 3 #[.int .i64 t, .int .i64 k, .int .i64 tick, .int .i64 te, .int .i64 ce, .int .i64 ot, .int .i64 ep, .int .i64 fr, .int .i64 un, .int .i64 n] 0).run Try.prog W = .ok (.int .i64 t) W := fun _ => by kernel_rfl
  have pb0 : ∀ W : World, (part 3 #[.int .i64 t', .int .i64 k', .int .i64 tick', .int .i64 te', .int .i64 ce', .int .i64 ot', .int .i64 ep', .int .i64 fr', .int .i64 un', .int .i64 n'] 0).run Try.prog W = .ok (.int .i64 t') W := fun _ => by kernel_rfl
  have pa1 : ∀ W : World, (part TEnt #[.int .i64 t, .int .i64 k, .int .i64 tick, .int .i64 te, .int .i64 ce, .int .i64 ot, .int .i64 ep, .int .i64 fr, .int .i64 un, .int .i64 n] 1).run Try.prog W = .ok (En.v ⟨k, tick, te, ce, ot, ep, fr, un, n⟩) W := fun _ => by kernel_rfl
  have pb1 : ∀ W : World, (part TEnt #[.int .i64 t', .int .i64 k', .int .i64 tick', .int .i64 te', .int .i64 ce', .int .i64 ot', .int .i64 ep', .int .i64 fr', .int .i64 un', .int .i64 n'] 1).run Try.prog W = .ok (En.v ⟨k', tick', te', ce', ot', ep', fr', un', n'⟩) W := fun _ => by kernel_rfl
  rw [← Array.forIn_toList]
  simp only [List.forIn_cons, List.forIn_nil, ne_eq, String.reduceEq, not_false_eq_true, if_true, Sem.run_bind, Result.andThen_ok, int_equalIn, pa0, pb0]
  by_cases h0 : t = t'
  case neg => simp [h0]
  subst h0
  simp only [beq_self_eq_true, Bool.not_true, Bool.false_eq_true, if_false, Sem.run_pure, Result.andThen_ok]
  simp only [Sem.run_bind, pa1, pb1, Result.andThen_ok, he]
  by_cases h1 : (⟨k, tick, te, ce, ot, ep, fr, un, n⟩ : En) = ⟨k', tick', te', ce', ot', ep', fr', un', n'⟩
  case neg => simp [h1]
  rw [h1]
  simp
theorem lg_neq (x y : Lg) (W : World) : (binOp .neq TLg x.v y.v).run Try.prog W = .ok (.bool (!decide (x = y))) W := by
  have h := lg_equal x y 9997 W
  unfold Lg.v at *
  simp only [binOp]
  simp [Op.equal, Op.maxDepth, h]
theorem lg_eql (x y : Lg) (W : World) : (binOp .eql TLg x.v y.v).run Try.prog W = .ok (.bool (decide (x = y))) W := by
  have h := lg_equal x y 9997 W
  unfold Lg.v at *
  simp only [binOp]
  simp [Op.equal, Op.maxDepth, h]
theorem lg_guard (op : BinOp) (x y : Operand) (a b : Array Value) (W : World) : (eqGuard op TLg x y (.agg a) (.agg b)).run Try.prog W = .ok () W := by
  have hm : Try.prog.eqGuardType Try.prog.depth TLg = false := by kernel_rfl
  cases op <;> simp [eqGuard, run_program, hm]
end Go.Proofs.Ytokblidfekbeeaa
/- The contract of SameLogged; the log of a replica. -/
namespace Go.Proofs.Ytokblidfekbeeaa
open Go.ChangeShapes Go.WideShapes Go.ChangeAt Go.RowKit
set_option linter.unusedVariables false

section
variable {w w' : World} {F G H : Nat → Prop} {p : Nat} {r : Rs} {s : Js} {n : Nat}
theorem take_eq_succ {xs ys : List Lg} {k : Nat} {x : Lg} (h : xs.take k = ys.take k) (hx : xs[k]? = some x) (hy : ys[k]? = some x) : xs.take (k + 1) = ys.take (k + 1) := by
  rw [List.take_add_one, List.take_add_one, h, hx, hy]
set_option maxRecDepth 100000 in
set_option maxHeartbeats 2000000 in
theorem same_logged {A B : Option Addr} {c d : Nat} {xs ys : List Lg} (hA : Ent w G (.slice A xs.length c) xs) (hB : Ent w H (.slice B ys.length d) ys) :
    Calls Try.prog 31 #[.slice A xs.length c, .slice B ys.length d] w fun e w' => e = .returned (.bool (decide (xs = ys))) ∧ Fr No w w' := by
  have hM := hA.rd.2.2.2.1
  have hM2 := hA.rd.2.2.1
  have hM3 := hB.rd.2.2.2.1
  have hM4 := hB.rd.2.2.1
  unfold maxLen at hM hM3
  have ha := fun i hi => hA.at_ (i := i) hi
  have hb := fun i hi => hB.at_ (i := i) hi
  by_cases hl : xs.length = ys.length
  · have t1 : (xs.length != ys.length) = false := by simpa using hl
    have t2 : ((xs.length : Int) != (ys.length : Int)) = false := by simp; omega
    clear hA hB
    generalize hY : decide (xs = ys) = Y at *
    rw [← hl] at hM4 t1 t2 ⊢
    have HA := Lib.hid ha
    have HB := Lib.hid hb
    have HY := Lib.hid hY
    have HL := Lib.hid hl
    clear ha hb hY hl
    go_enter Try.func31, Try.ntmps31
    go_wp2_with fail
    go_loopw [5] (fun i wr => ∃ k : Nat, k ≤ xs.length ∧ i = .int .i64 k ∧ xs.take k = ys.take k ∧ Fr No w wr) (fun i _ => xs.length - (intOf i).toNat)
    case atStart => exact ⟨0, Nat.zero_le _, rfl, rfl, Fr.refl _ _⟩
    case round =>
      obtain ⟨k, hk, rfl, htk, hf⟩ := hrel
      by_cases hlt : k < xs.length
      · have b1 : decide (k < xs.length) = true := by simpa using hlt
        have b2 : decide ((k : Int) < (xs.length : Int)) = true := by simp; omega
        have hlt2 : (k : Int) < (xs.length : Int) := by omega
        obtain ⟨b, off, x, rfl, hx, hxc⟩ := HA.out k hlt
        obtain ⟨b', off', y, rfl, hy, hyc⟩ := HB.out k (by rw [← HL.out]; exact hlt)
        obtain ⟨c0, c1, c2, c3, c4, c5, c6, c7, c8, c9⟩ := hxc wr hf
        obtain ⟨d0, d1, d2, d3, d4, d5, d6, d7, d8, d9⟩ := hyc wr hf
        by_cases he : x = y
        · subst he
          have hN := fun W => lg_neq x x W
          simp only [decide_true, Bool.not_true] at hN
          have hsu := take_eq_succ htk hx hy
          obtain ⟨t, ⟨kd, tick, te, ce, ot, ep, fr, un, nn⟩⟩ := x
          unfold Lg.v at hN
          simp only at *
          have hG := fun (u v : Operand) (V : World) => lg_guard .neq u v #[.int .i64 t, .int .i64 kd, .int .i64 tick, .int .i64 te, .int .i64 ce, .int .i64 ot, .int .i64 ep, .int .i64 fr, .int .i64 un, .int .i64 nn] #[.int .i64 t, .int .i64 kd, .int .i64 tick, .int .i64 te, .int .i64 ce, .int .i64 ot, .int .i64 ep, .int .i64 fr, .int .i64 un, .int .i64 nn] V
          clear hxc hyc hx hy htk
          have HF := Lib.hid hf
          have HSU := Lib.hid hsu
          clear hf hsu
          go_wp2_with fail
          go_quiet (fail)
          go_wp2_with fail
          go_roundw
          case rel => exact ⟨k + 1, by omega, by go_num, HSU.out, HF.out.drewN _⟩
          case measure => simp [intOf]; omega
        · have hN := fun W => lg_neq x y W
          rw [show (decide (x = y)) = false from by simpa using he] at hN
          simp only [Bool.not_false] at hN
          have hYf : false = Y := by
            rw [← HY.out]
            symm
            rw [decide_eq_false_iff_not]
            intro hh
            rw [hh] at hx
            rw [hx] at hy
            exact he (Option.some.inj hy)
          obtain ⟨t, ⟨kd, tick, te, ce, ot, ep, fr, un, nn⟩⟩ := x
          obtain ⟨t', ⟨kd', tick', te', ce', ot', ep', fr', un', nn'⟩⟩ := y
          unfold Lg.v at hN
          simp only at *
          have hG := fun (u v : Operand) (V : World) => lg_guard .neq u v #[.int .i64 t, .int .i64 kd, .int .i64 tick, .int .i64 te, .int .i64 ce, .int .i64 ot, .int .i64 ep, .int .i64 fr, .int .i64 un, .int .i64 nn] #[.int .i64 t', .int .i64 kd', .int .i64 tick', .int .i64 te', .int .i64 ce', .int .i64 ot', .int .i64 ep', .int .i64 fr', .int .i64 un', .int .i64 nn'] V
          clear hxc hyc hx hy htk he
          have HF := Lib.hid hf
          have HYF := Lib.hid hYf
          clear hf hYf
          go_wp2_with fail
          go_quiet (fail)
          go_wp2_with fail
          go_ret
          exact ⟨ret_bool HYF.out, HF.out.drewN _⟩
      · obtain rfl : k = xs.length := by omega
        have b1 : decide (xs.length < xs.length) = false := by simp
        have hYt : true = Y := by
          rw [← HY.out]
          symm
          rw [decide_eq_true_iff]
          have h2 := HL.out
          rw [List.take_length, h2, List.take_length] at htk
          exact htk
        clear htk
        have HF := Lib.hid hf
        have HYT := Lib.hid hYt
        clear hf hYt
        go_wp2_with fail
        go_ret
        exact ⟨ret_bool HYT.out, HF.out⟩
  · have hY : decide (xs = ys) = false := by
      rw [decide_eq_false_iff_not]
      intro hh
      exact hl (by rw [hh])
    rw [hY]
    have t1 : (xs.length != ys.length) = true := by simpa using hl
    have t2 : ((xs.length : Int) != (ys.length : Int)) = true := by simp; omega
    clear hY hl ha hb hA hB
    go_enter Try.func31, Try.ntmps31
    go_wp2_with fail
    go_ret
    exact ⟨rfl, Fr.refl _ _⟩
theorem p_log (h : RJ w p s n) (hl : s.log.length ≤ 4096) : Calls Try.prog 33 #[.pointer (some ⟨p, 0, none⟩)] w (FromTo w s.log) := by
  have hf : Calls Try.prog 51 #[.pointer (some ⟨p, 0, none⟩), .int .i64 0] w (FromTo w s.log) := p_from h hl 0 (Nat.zero_le _)
  clear h hl
  generalize s.log = l at *
  have HF := Lib.hid hf
  clear hf
  go_enter Try.func33, Try.ntmps33
  go_wp2_with fail
  refine HF.out.mono ?_
  rintro e w1 m1
  have M := Lib.hid m1
  obtain ⟨A, c, rfl, -⟩ := m1
  go_wp2_with fail
  go_ret
  exact M.out
end
end Go.Proofs.Ytokblidfekbeeaa
