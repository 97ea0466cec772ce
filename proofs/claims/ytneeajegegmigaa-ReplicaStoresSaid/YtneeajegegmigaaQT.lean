/-
  Several texts in one: SLg, L9S, L9T.
-/
import Derived.Test.YtneeajegegmigaaQC
import Derived.Test.YtneeajegegmigaaLgEq
import Derived.Test.YtneeajegegmigaaQV
import Derived.Test.YtneeajegegmigaaRowI
/- The contract of SameLogged; the log of a replica. -/
namespace Go.Proofs.Ytneeajegegmigaa
open Go.ChangeShapes Go.WideShapes Go.ChangeAt Go.RowKit
set_option linter.unusedVariables false

section
variable {w w' : World} {F G H : Nat → Prop} {p : Nat} {r : Rs} {s : Js} {n : Nat}
theorem take_eq_succ {xs ys : List Lg} {k : Nat} {x : Lg} (h : xs.take k = ys.take k) (hx : xs[k]? = some x) (hy : ys[k]? = some x) : xs.take (k + 1) = ys.take (k + 1) := by
  rw [List.take_add_one, List.take_add_one, h, hx, hy]
set_option maxRecDepth 100000 in
set_option maxHeartbeats 2000000 in
theorem same_logged {A B : Option Addr} {c d : Nat} {xs ys : List Lg} (hA : Ent w G (.slice A xs.length c) xs) (hB : Ent w H (.slice B ys.length d) ys) :
    Calls Try.prog 16 #[.slice A xs.length c, .slice B ys.length d] w fun e w' => e = .returned (.bool (decide (xs = ys))) ∧ Fr No w w' := by
  have hM := hA.rd.2.2.2.1
  have hM2 := hA.rd.2.2.1
  have hM3 := hB.rd.2.2.2.1
  have hM4 := hB.rd.2.2.1
  unfold maxLen at hM hM3
  have ha := fun i hi => hA.at_ (i := i) hi
  have hb := fun i hi => hB.at_ (i := i) hi
  by_cases hl : xs.length = ys.length
  · have t1 : (xs.length != ys.length) = false := by simpa using hl
    have t2 : ((xs.length : Int) != (ys.length : Int)) = false := by simp; omega
    clear hA hB
    generalize hY : decide (xs = ys) = Y at *
    rw [← hl] at hM4 t1 t2 ⊢
    have HA := Lib.hid ha
    have HB := Lib.hid hb
    have HY := Lib.hid hY
    have HL := Lib.hid hl
    clear ha hb hY hl
    go_enter Try.func16, Try.ntmps16
    go_wp2_with fail
    go_loopw [5] (fun i wr => ∃ k : Nat, k ≤ xs.length ∧ i = .int .i64 k ∧ xs.take k = ys.take k ∧ Fr No w wr) (fun i _ => xs.length - (intOf i).toNat)
    case atStart => exact ⟨0, Nat.zero_le _, rfl, rfl, Fr.refl _ _⟩
    case round =>
      obtain ⟨k, hk, rfl, htk, hf⟩ := hrel
      by_cases hlt : k < xs.length
      · have b1 : decide (k < xs.length) = true := by simpa using hlt
        have b2 : decide ((k : Int) < (xs.length : Int)) = true := by simp; omega
        have hlt2 : (k : Int) < (xs.length : Int) := by omega
        obtain ⟨b, off, x, rfl, hx, hxc⟩ := HA.out k hlt
        obtain ⟨b', off', y, rfl, hy, hyc⟩ := HB.out k (by rw [← HL.out]; exact hlt)
        obtain ⟨c0, c1, c2, c3, c4, c5, c6, c7, c8, c9⟩ := hxc wr hf
        obtain ⟨d0, d1, d2, d3, d4, d5, d6, d7, d8, d9⟩ := hyc wr hf
        by_cases he : x = y
        · subst he
          have hN := fun W => lg_neq x x W
          simp only [decide_true, Bool.not_true] at hN
          have hsu := take_eq_succ htk hx hy
          obtain ⟨t, ⟨kd, tick, te, ce, ot, ep, fr, un, nn⟩⟩ := x
          unfold Lg.v at hN
          simp only at *
          have hG := fun (u v : Operand) (V : World) => lg_guard .neq u v #[.int .i64 t, .int .i64 kd, .int .i64 tick, .int .i64 te, .int .i64 ce, .int .i64 ot, .int .i64 ep, .int .i64 fr, .int .i64 un, .int .i64 nn] #[.int .i64 t, .int .i64 kd, .int .i64 tick, .int .i64 te, .int .i64 ce, .int .i64 ot, .int .i64 ep, .int .i64 fr, .int .i64 un, .int .i64 nn] V
          clear hxc hyc hx hy htk
          have HF := Lib.hid hf
          have HSU := Lib.hid hsu
          clear hf hsu
          go_wp2_with fail
          go_quiet (fail)
          go_wp2_with fail
          go_roundw
          case rel => exact ⟨k + 1, by omega, by go_num, HSU.out, HF.out.drewN _⟩
          case measure => simp [intOf]; omega
        · have hN := fun W => lg_neq x y W
          rw [show (decide (x = y)) = false from by simpa using he] at hN
          simp only [Bool.not_false] at hN
          have hYf : false = Y := by
            rw [← HY.out]
            symm
            rw [decide_eq_false_iff_not]
            intro hh
            rw [hh] at hx
            rw [hx] at hy
            exact he (Option.some.inj hy)
          obtain ⟨t, ⟨kd, tick, te, ce, ot, ep, fr, un, nn⟩⟩ := x
          obtain ⟨t', ⟨kd', tick', te', ce', ot', ep', fr', un', nn'⟩⟩ := y
          unfold Lg.v at hN
          simp only at *
          have hG := fun (u v : Operand) (V : World) => lg_guard .neq u v #[.int .i64 t, .int .i64 kd, .int .i64 tick, .int .i64 te, .int .i64 ce, .int .i64 ot, .int .i64 ep, .int .i64 fr, .int .i64 un, .int .i64 nn] #[.int .i64 t', .int .i64 kd', .int .i64 tick', .int .i64 te', .int .i64 ce', .int .i64 ot', .int .i64 ep', .int .i64 fr', .int .i64 un', .int .i64 nn'] V
          clear hxc hyc hx hy htk he
          have HF := Lib.hid hf
          have HYF := Lib.hid hYf
          clear hf hYf
          go_wp2_with fail
          go_quiet (fail)
          go_wp2_with fail
          go_ret
          exact ⟨ret_bool HYF.out, HF.out.drewN _⟩
      · obtain rfl : k = xs.length := by omega
        have b1 : decide (xs.length < xs.length) = false := by simp
        have hYt : true = Y := by
          rw [← HY.out]
          symm
          rw [decide_eq_true_iff]
          have h2 := HL.out
          rw [List.take_length, h2, List.take_length] at htk
          exact htk
        clear htk
        have HF := Lib.hid hf
        have HYT := Lib.hid hYt
        clear hf hYt
        go_wp2_with fail
        go_ret
        exact ⟨ret_bool HYT.out, HF.out⟩
  · have hY : decide (xs = ys) = false := by
      rw [decide_eq_false_iff_not]
      intro hh
      exact hl (by rw [hh])
    rw [hY]
    have t1 : (xs.length != ys.length) = true := by simpa using hl
    have t2 : ((xs.length : Int) != (ys.length : Int)) = true := by simp; omega
    clear hY hl ha hb hA hB
    go_enter Try.func16, Try.ntmps16
    go_wp2_with fail
    go_ret
    exact ⟨rfl, Fr.refl _ _⟩
theorem p_log (h : RJ w p s n) (hl : s.log.length ≤ 4096) : Calls Try.prog 17 #[.pointer (some ⟨p, 0, none⟩)] w (FromTo w s.log) := by
  have hf : Calls Try.prog 38 #[.pointer (some ⟨p, 0, none⟩), .int .i64 0] w (FromTo w s.log) := p_from h hl 0 (Nat.zero_le _)
  clear h hl
  generalize s.log = l at *
  have HF := Lib.hid hf
  clear hf
  go_enter Try.func17, Try.ntmps17
  go_wp2_with fail
  refine HF.out.mono ?_
  rintro e w1 m1
  have M := Lib.hid m1
  obtain ⟨A, c, rfl, -⟩ := m1
  go_wp2_with fail
  go_ret
  exact M.out
end
end Go.Proofs.Ytneeajegegmigaa
/- The walk of ReplicaStores. -/
namespace Go.Proofs.Ytneeajegegmigaa
open Go.ChangeShapes Go.WideShapes Go.ChangeAt Go.RowKit
set_option linter.unusedVariables false

theorem mod1000 (x : Int) : 0 ≤ x % 1000 ∧ x % 1000 < 1000 := ⟨Int.emod_nonneg x (by decide), Int.emod_lt_of_pos x (by decide)⟩
/-- A log of notes of one term. -/
def lgs (t : Int) (q : List Int) : List Lg := q.map fun x => ⟨t, noteE (x % 1000)⟩
theorem lgs_len (t : Int) (q : List Int) : (lgs t q).length = q.length := by simp [lgs]
theorem lgs_take (t : Int) (q : List Int) {k : Nat} (h : k < q.length) : lgs t (q.take (k + 1)) = lgs t (q.take k) ++ [⟨t, noteE (q[k] % 1000)⟩] := by
  unfold lgs
  rw [List.take_succ_eq_append_getElem h, List.map_append]
  rfl
theorem onAppend_none {r : Rs} {m : Ms} (h1 : ¬ m.term < r.js.term) (h2 : ¬ r.role = 3) (h3 : r.fits m = true) (h4 : m.es = []) :
    r.onAppend m = ({ r with role := 1, commit := max r.commit (min m.commit.toNat (m.index.toNat + m.es.length)) }, r.answer m.from_ (m.index + m.es.length) true) := by
  unfold Rs.onAppend
  rw [if_neg h1, if_neg h2, if_neg (by rw [h3]; simp), if_neg (by rw [h4]; simp)]
theorem onAppend_new {r : Rs} {m : Ms} (hok : RsOk r) (hp : Proper r m) (hk : m.kind = 3) (ht : m.term = r.js.term) (h2 : ¬ r.role = 3) (h3 : r.fits m = true) (hK : matchK r.js.log m.index.toNat m.es = 0) (hpos : 0 < m.es.length) (hc : r.commit ≤ m.index.toNat) :
    r.onAppend m = ({ r with role := 1, js := ⟨r.js.term, r.js.vote, r.js.log.take m.index.toNat ++ m.es⟩, commit := max r.commit (min m.commit.toNat (m.index.toNat + m.es.length)) }, r.answer m.from_ (m.index + m.es.length) true) := by
  obtain ⟨k1, k2⟩ := take_log hok hp hk ht h3
  rw [hK] at k2
  have k3 := k2 hpos
  rw [Nat.add_zero, List.drop_zero] at k3
  unfold Rs.onAppend
  rw [if_neg (by omega), if_neg h2, if_neg (by rw [h3]; simp), hK, if_pos hpos, if_neg (by omega), Nat.add_zero, List.drop_zero, k3]
theorem lgs_mem {t : Int} {q : List Int} {x : Lg} (h : x ∈ lgs t q) : x.term = t ∧ x.e.ok ∧ shapeB x.e = true := by
  unfold lgs at h
  obtain ⟨y, -, rfl⟩ := List.mem_map.1 h
  exact ⟨rfl, noteE_ok _ (mod1000 y).1 (mod1000 y).2, noteE_shape _ (mod1000 y).1 (mod1000 y).2⟩
theorem lgs_term (t : Int) (q : List Int) {k : Nat} (h : k < q.length) : termAt (lgs t q) (k : Int) = t := by
  obtain ⟨x, hx⟩ : ∃ x, (lgs t q)[k]? = some x := ⟨_, List.getElem?_eq_getElem (by rw [lgs_len]; exact h)⟩
  rw [termAt_at hx]
  exact (lgs_mem (List.mem_of_getElem? hx)).1
theorem lgs_chain (t : Int) : ∀ (q : List Int) (low : Int), low ≤ t → chainB t low (lgs t q) = true := by
  intro q
  induction q with
  | nil => intro low _; rfl
  | cons x q ih =>
    intro low h
    have hx : (⟨t, noteE (x % 1000)⟩ : Lg) ∈ lgs t (x :: q) := by simp [lgs]
    have h1 := lgs_mem hx
    show chainB t low ((⟨t, noteE (x % 1000)⟩ : Lg) :: lgs t q) = true
    simp only [chainB, Bool.and_eq_true, decide_eq_true_eq]
    exact ⟨h1.2.2, h, Int.le_refl _, ih t (Int.le_refl _)⟩
def m1 (q : List Int) : Ms := ⟨3, 0, 1, 1, 0, 0, 0, false, lgs 1 q⟩
def m2 (k : Nat) (q : List Int) : Ms := ⟨3, 2, 1, 2, k, (min k 1 : Nat), k, false, lgs 2 q⟩
/-- The first message is taken. -/
theorem st_first (q : List Int) (hq : q.length ≤ 20) : ((repNew 1 3).handle (m1 q)) = ({ repNew 1 3 with js := ⟨1, -1, lgs 1 q⟩ }, [⟨4, 1, 0, 1, (q.length : Int), 0, 0, true, []⟩]) := by
  have hok : RsOk (repNew 1 3) := RsOk.new (by decide) (by decide)
  have hlen := lgs_len 1 q
  have hp : Proper (repNew 1 3) (m1 q) := ⟨rfl, by simp [m1, repNew], by simp [m1], by simp [m1, repNew], by simp [m1], by simp [m1], by simp [m1], by simp [m1], by simp [m1], by simp [m1], by simp [m1], by simp [m1], .inr (.inr (.inl rfl)), fun _ => by
    unfold properA
    rw [Bool.and_eq_true, Bool.and_eq_true]
    exact ⟨rfl, decide_eq_true (show (0 : Int) + ((lgs 1 q).length : Int) ≤ 4096 by omega), lgs_chain 1 q _ (show max 1 (0 : Int) ≤ 1 by decide)⟩⟩
  rw [handle_proper hp]
  have hme : (repNew 1 3).meets (m1 q).term = { repNew 1 3 with js := ⟨1, -1, []⟩, role := 1 } := by
    unfold Rs.meets
    rw [if_pos (by simp [m1, repNew, jsNew])]
    rfl
  have hok1 := hok.meets (m1 q).term hp.t1
  have hp1 := hp.of_meets (m1 q).term
  rw [hme] at hok1 hp1 ⊢
  unfold Rs.takes
  rw [if_neg (by simp [m1]), if_neg (by simp [m1]), if_pos (by simp [m1])]
  have hfit : ({ repNew 1 3 with js := ⟨1, -1, []⟩, role := 1 } : Rs).fits (m1 q) = true := by unfold Rs.fits; simp [m1]
  rcases Nat.eq_zero_or_pos q.length with h0 | h0
  · obtain rfl : q = [] := List.eq_nil_of_length_eq_zero h0
    rfl
  · have hK : matchK ([] : List Lg) 0 (lgs 1 q) = 0 := by
      rcases q with _ | ⟨x, q⟩
      · simp at h0
      · show (if termAt ([] : List Lg) ((0 : Nat) : Int) = 1 then _ else 0) = 0
        rw [if_neg (by decide)]
    rw [onAppend_new hok1 hp1 rfl rfl (by simp) hfit hK (by simp only [m1]; omega) (by simp [repNew])]
    simp only [m1, Rs.answer, repNew, List.take_nil, List.nil_append, hlen]
    simp
/-- The second message is taken. -/
theorem st_second (q1 q2 : List Int) (k : Nat) (h1 : q1.length ≤ 20) (h2 : q2.length ≤ 20) (hk : k ≤ q1.length) :
    (({ repNew 1 3 with js := ⟨1, -1, lgs 1 q1⟩ } : Rs).handle (m2 k q2)) = ({ repNew 1 3 with js := ⟨2, -1, if q2.length = 0 then lgs 1 q1 else (lgs 1 q1).take k ++ lgs 2 q2⟩, commit := k }, [⟨4, 1, 2, 2, (k : Int) + q2.length, 0, 0, true, []⟩]) := by
  have hl1 := lgs_len 1 q1
  have hl2 := lgs_len 2 q2
  have hok : RsOk ({ repNew 1 3 with js := ⟨1, -1, lgs 1 q1⟩ } : Rs) := by
    have h := (RsOk.new (id := 1) (n := 3) (by decide) (by decide)).handle (m := m1 q1) (fun x hx => (lgs_mem hx).2.1)
    rw [st_first q1 h1] at h
    exact h
  generalize hr : ({ repNew 1 3 with js := ⟨1, -1, lgs 1 q1⟩ } : Rs) = r at *
  have hjs : r.js = ⟨1, -1, lgs 1 q1⟩ := by rw [← hr]
  have hid : r.id = 1 := by rw [← hr]; rfl
  have hn : r.n = 3 := by rw [← hr]; rfl
  have hp : Proper r (m2 k q2) := ⟨by rw [hid]; rfl, by rw [hid]; simp [m2], by simp [m2], by rw [hn]; simp [m2], by simp [m2], by simp [m2], by simp [m2], by simp only [m2]; omega, by simp only [m2]; omega, by simp only [m2]; omega, by simp [m2], by simp only [m2]; omega, .inr (.inr (.inl rfl)), fun _ => by
    unfold properA
    rw [Bool.and_eq_true, Bool.and_eq_true]
    refine ⟨?_, decide_eq_true (show (k : Int) + ((lgs 2 q2).length : Int) ≤ 4096 by omega), lgs_chain 2 q2 _ (show max 1 ((min k 1 : Nat) : Int) ≤ 2 by omega)⟩
    simp only [m2]
    rcases Nat.eq_zero_or_pos k with h0 | h0
    · rw [h0]; rfl
    · have e1 : (((min k 1 : Nat) : Int) == 0) = false := by simp; omega
      have e2 : ((k : Int) == 0) = false := by simp; omega
      rw [e1, e2]
      rfl⟩
  rw [handle_proper hp]
  have hme : r.meets (m2 k q2).term = { r with js := ⟨2, -1, lgs 1 q1⟩, role := 1 } := by
    unfold Rs.meets
    rw [if_pos (by rw [hjs]; simp [m2]), hjs]
    rfl
  have hok1 := hok.meets (m2 k q2).term hp.t1
  have hp1 := hp.of_meets (m2 k q2).term
  rw [hme] at hok1 hp1 ⊢
  have hfit : ({ r with js := ⟨2, -1, lgs 1 q1⟩, role := 1 } : Rs).fits (m2 k q2) = true := by
    apply decide_eq_true
    show (k : Int) ≤ ((lgs 1 q1).length : Int) ∧ ((k : Int) = 0 ∨ termAt (lgs 1 q1) ((k : Int) - 1) = ((min k 1 : Nat) : Int))
    refine ⟨by rw [hl1]; omega, ?_⟩
    rcases Nat.eq_zero_or_pos k with h0 | h0
    · exact .inl (by omega)
    · refine .inr ?_
      rw [show (k : Int) - 1 = ((k - 1 : Nat) : Int) from by omega, lgs_term 1 q1 (by omega)]
      omega
  unfold Rs.takes
  rw [if_neg (by simp [m2]), if_neg (by simp [m2]), if_pos (by simp [m2])]
  have hrc : r.commit = 0 := by rw [← hr]; rfl
  rcases Nat.eq_zero_or_pos q2.length with h0 | h0
  · obtain rfl : q2 = [] := List.eq_nil_of_length_eq_zero h0
    rw [onAppend_none (by simp [m2]) (by simp) hfit rfl]
    subst hr
    simp [lgs, m2, Rs.answer, repNew]
  · have hK : matchK (lgs 1 q1) k (lgs 2 q2) = 0 := by
      rcases q2 with _ | ⟨x, q2⟩
      · simp at h0
      · show (if termAt (lgs 1 q1) ((k : Nat) : Int) = 2 then _ else 0) = 0
        have ht : termAt (lgs 1 q1) ((k : Nat) : Int) ≠ 2 := by
          by_cases hkl : k < q1.length
          · rw [lgs_term 1 q1 hkl]; decide
          · rw [termAt_out (by rw [hl1]; omega)]; decide
        rw [if_neg ht]
    rw [onAppend_new hok1 hp1 rfl rfl (by simp) hfit (by simpa [m2] using hK) (by simp only [m2]; omega) (by simp only; omega)]
    rw [if_neg (by omega)]
    subst hr
    simp only [m2, Int.toNat_natCast, Rs.answer, repNew, hl2]
    refine Prod.ext ?_ rfl
    have e : max 0 (min k (k + q2.length)) = k := by omega
    simp only [e]
end Go.Proofs.Ytneeajegegmigaa
/- The walk of ReplicaStores. -/
namespace Go.Proofs.Ytneeajegegmigaa
open Go.ChangeShapes Go.WideShapes Go.ChangeAt Go.RowKit
set_option linter.unusedVariables false

theorem OwnN.pushNew {w0 W w1 : World} {A : Option Addr} {c n : Nat} {l : List Lg} {x : Lg} {v' : Value} (h : OwnN W (fun b => w0.heap.size ≤ b) TLg 10 (.slice A n c) n (logV l)) (hB : w0.heap.size ≤ W.heap.size)
    (ha : AppendedN W 0 TLg 10 (.slice A n c) n (logV l) x.cells 1 v' w1) :
    ∃ A' c', v' = .slice A' (n + 1) c' ∧ OwnN w1 (fun b => w0.heap.size ≤ b) TLg 10 (.slice A' (n + 1) c') (n + 1) (logV (l ++ [x])) ∧ Fr (fun b => w0.heap.size ≤ b) W w1 := by
  obtain ⟨o1, f1⟩ := h.appended ha
  obtain ⟨A', c', rfl, -⟩ := o1.form
  refine ⟨A', c', rfl, ?_, f1⟩
  rw [logV_snoc]
  exact o1.mono fun i hi => by rcases hi with hi | hi <;> omega
theorem OwnN.ltF {w : World} {F : Nat → Prop} {e : TypeId} {size n : Nat} {v : Value} {xs : List Value} (h : OwnN w F e size v n xs) : OwnN w (fun i => F i ∧ i < w.heap.size) e size v n xs :=
  ⟨h.1, fun g hg => ⟨h.2 g hg, h.lt g hg⟩⟩
theorem Ent.own {w : World} {F : Nat → Prop} {A : Option Addr} {n c : Nat} {l : List Lg} (h : OwnN w F TLg 10 (.slice A n c) n (logV l)) (hl : l.length = n) : Ent w F (.slice A l.length c) l := by
  subst hl
  exact Ent.of_own h

theorem OwnN.empty (w : World) (e : TypeId) (size : Nat) : OwnN (w.alloc (.cells #[] e)) (fun i => w.heap.size ≤ i) e size (.slice (some ⟨w.heap.size, 0, none⟩) 0 0) 0 [] :=
  ⟨World.ownsRow_made w #[] 0 (Nat.zero_le _) (Nat.zero_le _) (by simp), fun g hg => by simp [Value.ownBlock] at hg; omega⟩
theorem lg_ones (l : List Lg) : ∀ u ∈ logV l, u.oneCell' = true := by
  intro u hu
  unfold logV at hu
  obtain ⟨x, -, hx⟩ := List.mem_flatMap.1 hu
  exact log_one x u hx
theorem lg_append (a b : List Lg) : logV (a ++ b) = logV a ++ logV b := by simp [logV]

set_option maxRecDepth 100000 in
set_option maxHeartbeats 16000000 in
theorem ReplicaStores_walk (a0 : Option Addr) (len0 cap0 : Nat) (z0 : List Int) (a1 : Option Addr) (len1 cap1 : Nat) (z1 : List Int) (a2 : Int) (w : World) (w0 : IsRow .i64 w a0 len0 cap0 z0) (w1 : IsRow .i64 w a1 len1 cap1 z1) (w2 : (Lit.int .i64 a2).wf = true) (s0 : cap0 * 8 ≤ 140737488351232) (s1 : cap1 * 8 ≤ 140737488351232) :
    Calls Try.prog 5 #[.slice a0 len0 cap0, .slice a1 len1 cap1, .int .i64 a2] w fun e w' => e = .returned (.bool true) ∧ Below w.heap.size w w' := by
  obtain ⟨i0, hi0, hz0, hz1, hz2⟩ := info_parts log_info
  obtain ⟨q1, hq1, hm1, hc1, hn1, hr1, -⟩ := w0.openI
  obtain ⟨q2, hq2, hm2, hc2, hn2, hr2, -⟩ := w1.openI
  unfold maxLen at hm1 hm2
  have hnew := fun W => p_new 1 3 W (by decide) (by decide) (by decide)
  have haw := fun W => awake9_any W
  clear w0 w1 w2
  change ∀ (W : World), Calls Try.prog 6 #[.int .i64 1, .int .i64 3] W _ at hnew
  have HNEW := Lib.hid hnew
  have HAW := Lib.hid haw
  have HR1 := Lib.hid hr1
  have HN1 := Lib.hid hn1
  have HQ1 := Lib.hid hq1
  have HR2 := Lib.hid hr2
  have HN2 := Lib.hid hn2
  have HQ2 := Lib.hid hq2
  clear hnew haw hr1 hn1 hq1 hr2 hn2 hq2
  go_enter Try.func5, Try.ntmps5
  go_wp2_with fail
  refine (HNEW.out _).mono ?_
  rintro e w2 ⟨p, F, rfl, b2, n2, f2⟩
  have B2 := Lib.hid b2
  have N2 := Lib.hid n2
  have F2 := Lib.hid f2
  clear b2 n2 f2
  go_wp2_with fail
  refine (HAW.out _).mono ?_
  rintro e w3 ⟨rfl, f3⟩
  have b3 := B2.out.frNo f3
  have F3 := Lib.hid (F2.out.transNo f3)
  clear B2 F2 f3
  have B3 := Lib.hid b3
  clear b3
  by_cases hl : 20 < len0 ∨ 20 < len1
  · by_cases hl0 : 20 < len0
    · have d1 : decide (20 < len0) = true := by simpa using hl0
      have d2 : decide ((20 : Int) < (len0 : Int)) = true := by simp; omega
      go_wp2_with fail
      refine (HAW.out _).mono ?_
      rintro e w4 ⟨rfl, f4⟩
      have F4 := Lib.hid f4
      clear f4
      go_wp2_with fail
      go_ret
      exact ⟨ret_bool rfl, (F3.out.transNo F4.out).belowNo⟩
    · have hl1 : 20 < len1 := by omega
      have d1 : decide (20 < len0) = false := by simpa using hl0
      have d2 : decide ((20 : Int) < (len0 : Int)) = false := by simp; omega
      have e1 : decide (20 < len1) = true := by simpa using hl1
      have e2 : decide ((20 : Int) < (len1 : Int)) = true := by simp; omega
      go_wp2_with fail
      refine (HAW.out _).mono ?_
      rintro e w4 ⟨rfl, f4⟩
      have F4 := Lib.hid f4
      clear f4
      go_wp2_with fail
      go_ret
      exact ⟨ret_bool rfl, (F3.out.transNo F4.out).belowNo⟩
  · have hs0 : len0 ≤ 20 := by omega
    have hs1 : len1 ≤ 20 := by omega
    have d1 : decide (20 < len0) = false := by simp; omega
    have d2 : decide ((20 : Int) < (len0 : Int)) = false := by simp; omega
    have e1 : decide (20 < len1) = false := by simp; omega
    have e2 : decide ((20 : Int) < (len1 : Int)) = false := by simp; omega
    clear hl
    go_wp2_with fail
    clear d1 d2 e1 e2
    go_loopw [9, 11] (fun fv i wr => ∃ (k : Nat) (A : Option Addr) (c : Nat), k ≤ len0 ∧ i = .int .i64 k ∧ fv = .slice A k c ∧ OwnN wr (fun b => w3.heap.size ≤ b) TLg 10 (.slice A k c) k (logV (lgs 1 (q1.take k))) ∧ Fr No w3 wr) (fun _ i _ => len0 - (intOf i).toNat)
    case atStart => exact ⟨0, none, 0, Nat.zero_le _, rfl, rfl, OwnN.nil _ _ _ _, Fr.refl _ _⟩
    case round =>
      obtain ⟨k, A, c, hk, rfl, rfl, ho, hf⟩ := hrel
      by_cases hlt : k < len0
      · have b1 : decide (k < len0) = true := by simpa using hlt
        have b2 : decide ((k : Int) < (len0 : Int)) = true := by simp; omega
        have hlt2 : (k : Int) < (len0 : Int) := by omega
        have hkl : k < q1.length := by rw [HQ1.out]; exact hlt
        obtain ⟨b, off, rfl, hbB, hc0⟩ := HR1.out.at_ (by rw [List.length_map, HQ1.out]; omega)
        have hcell := (((F3.out.transNo hf).cell (p := ⟨b, off + k, none⟩) hbB (fun h => h)).trans (by rw [hc0 k (by rw [List.length_map]; exact hkl), List.getElem_map]) : wr.cell? ⟨b, off + k, none⟩ = some (.int .i64 q1[k]))
        have hlg := lgs_take 1 q1 hkl
        generalize q1[k] = y at *
        have hno := fun W => note9_any y W
        unfold noteE En.v at hno
        clear hc0 hkl
        have HNO := Lib.hid hno
        have HO := Lib.hid ho
        have HF := Lib.hid hf
        have HLG := Lib.hid hlg
        clear hno ho hf hlg
        go_wp2_with fail
        refine (HNO.out _).mono ?_
        rintro e w5 ⟨rfl, f5⟩
        have o5 := HO.out.frNo f5
        have hrow : ∀ W, Fr No w5 W → OwnN W (fun b => w3.heap.size ≤ b) TLg 10 (.slice A k c) k (logV (lgs 1 (q1.take k))) := fun W hW => o5.frNo hW
        have F5 := Lib.hid (HF.out.transNo f5)
        clear f5 o5 HO HF hcell
        have HROW := Lib.hid hrow
        clear hrow
        go_wp2_with (at_builtin; refine wpList_append_rdN _ rfl (.tmp 52) (.tmp 59) _ rfl 0 TLg i0 _ 10 80 Try.underlying39 hi0 hz0 hz1 hz2 rfl (by decide) (.slice A k c) k (logV (lgs 1 (q1.take k))) rfl ?k1 (w5.heap.size + 1) (some ⟨w5.heap.size, 0, none⟩) 1 1 (Lg.cells ⟨1, noteE (y % 1000)⟩) rfl (fun h => by cases h) ?k2 rfl ?k3 ?k4 ?k5 (Nat.zero_le _) ?_)
        case k1 => exact (HROW.out _ (fr_alloc w5 _)).1
        case k2 => exact Rd.new w5 _ TLg rfl
        case k3 => simp [Lg.cells, Value.oneCell']
        case k4 => unfold maxLen; omega
        case k5 => omega
        intro v9 w9 happ
        obtain ⟨A9, c9, rfl, o9, f9⟩ := OwnN.pushNew (HROW.out _ (fr_alloc w5 _)) (by have := F5.out.size; simp; omega) happ
        rw [← HLG.out] at o9
        have F9 := Lib.hid ((F5.out.alloc _).transNew f9 fun _ h => h)
        clear happ f9 HROW
        have O9 := Lib.hid o9
        clear o9
        go_wp2_with fail
        go_roundw
        case rel => exact ⟨k + 1, A9, c9, by omega, by go_num, rfl, O9.out, F9.out⟩
        case measure => simp [intOf]; omega
      · obtain rfl : k = len0 := by omega
        have b1 : decide (k < k) = false := by simp
        have b2 : decide ((k : Int) < (k : Int)) = false := by simp
        rw [List.take_of_length_le (by rw [HQ1.out]; exact Nat.le_refl _)] at ho
        have O1 := Lib.hid ho.ltF
        have B4 := Lib.hid (B3.out.frNo hf)
        have F4 := Lib.hid (F3.out.transNo hf)
        have hFlt := B3.out.lt
        have hs34 := hf.size
        clear ho hf B3 F3
        have HFLT := Lib.hid hFlt
        clear hFlt
        go_wp2_with fail
        go_loopw [10, 12] (fun fv i wx => ∃ (j : Nat) (A2 : Option Addr) (c2 : Nat), j ≤ len1 ∧ i = .int .i64 j ∧ fv = .slice A2 j c2 ∧ OwnN wx (fun b => wr.heap.size ≤ b) TLg 10 (.slice A2 j c2) j (logV (lgs 2 (q2.take j))) ∧ Fr No wr wx) (fun _ i _ => len1 - (intOf i).toNat)
        case atStart => exact ⟨0, none, 0, Nat.zero_le _, rfl, rfl, OwnN.nil _ _ _ _, Fr.refl _ _⟩
        case round =>
          obtain ⟨j, A2, c2, hj, rfl, rfl, ho, hf⟩ := hrel
          by_cases hlt : j < len1
          · have b1 : decide (j < len1) = true := by simpa using hlt
            have b2 : decide ((j : Int) < (len1 : Int)) = true := by simp; omega
            have hlt2 : (j : Int) < (len1 : Int) := by omega
            have hkl : j < q2.length := by rw [HQ2.out]; exact hlt
            obtain ⟨b, off, rfl, hbB, hc0⟩ := HR2.out.at_ (by rw [List.length_map, HQ2.out]; omega)
            have hcell := (((F4.out.transNo hf).cell (p := ⟨b, off + j, none⟩) hbB (fun h => h)).trans (by rw [hc0 j (by rw [List.length_map]; exact hkl), List.getElem_map]) : wr.cell? ⟨b, off + j, none⟩ = some (.int .i64 q2[j]))
            have hlg := lgs_take 2 q2 hkl
            generalize q2[j] = y at *
            have hno := fun W => note9_any y W
            unfold noteE En.v at hno
            clear hc0 hkl
            have HNO := Lib.hid hno
            have HO := Lib.hid ho
            have HF := Lib.hid hf
            have HLG := Lib.hid hlg
            clear hno ho hf hlg
            go_wp2_with fail
            refine (HNO.out _).mono ?_
            rintro e w5 ⟨rfl, f5⟩
            have hrow := fun W (hW : Fr No w5 W) => (HO.out.frNo f5).frNo hW
            have F5 := Lib.hid (HF.out.transNo f5)
            clear f5 HO HF hcell
            have HROW := Lib.hid hrow
            clear hrow
            go_wp2_with (at_builtin; refine wpList_append_rdN _ rfl (.tmp 67) (.tmp 74) _ rfl 0 TLg i0 _ 10 80 Try.underlying39 hi0 hz0 hz1 hz2 rfl (by decide) (.slice A2 j c2) j (logV (lgs 2 (q2.take j))) rfl ?g1 (w5.heap.size + 1) (some ⟨w5.heap.size, 0, none⟩) 1 1 (Lg.cells ⟨2, noteE (y % 1000)⟩) rfl (fun h => by cases h) ?g2 rfl ?g3 ?g4 ?g5 (Nat.zero_le _) ?_)
            case g1 => exact (HROW.out _ (fr_alloc w5 _)).1
            case g2 => exact Rd.new w5 _ TLg rfl
            case g3 => simp [Lg.cells, Value.oneCell']
            case g4 => unfold maxLen; omega
            case g5 => omega
            intro v9 w9 happ
            obtain ⟨A9, c9, rfl, o9, f9⟩ := OwnN.pushNew (HROW.out _ (fr_alloc w5 _)) (by have := F5.out.size; simp; omega) happ
            rw [← HLG.out] at o9
            have F9 := Lib.hid ((F5.out.alloc _).transNew f9 fun _ h => h)
            clear happ f9 HROW
            have O9 := Lib.hid o9
            clear o9
            go_wp2_with fail
            go_roundw
            case rel => exact ⟨j + 1, A9, c9, by omega, by go_num, rfl, O9.out, F9.out⟩
            case measure => simp [intOf]; omega
          · obtain rfl : j = len1 := by omega
            have b1 : decide (j < j) = false := by simp
            have b2 : decide ((j : Int) < (j : Int)) = false := by simp
            rw [List.take_of_length_le (by rw [HQ2.out]; exact Nat.le_refl _)] at ho
            have hL1 : (lgs 1 q1).length = k := by rw [lgs_len]; exact HQ1.out
            have hL2 : (lgs 2 q2).length = j := by rw [lgs_len]; exact HQ2.out
            have hq1' : q1.length ≤ 20 := by rw [HQ1.out]; exact hs0
            have hq2' : q2.length ≤ 20 := by rw [HQ2.out]; exact hs1
            have o2 := ho.ltF
            have o1 := O1.out.frNo hf
            have a5 := B4.out.frNo hf
            have f5 := F4.out.transNo hf
            have hs45 := hf.size
            clear ho hf O1 B4 F4
            have hmd := fun W => mod_any a2 ((k : Int) + 1) W (by omega) (by omega)
            have hv0 := Int.emod_nonneg a2 (show ((k : Int) + 1) ≠ 0 by omega)
            have hv1 := Int.emod_lt_of_pos a2 (show (0 : Int) < ((k : Int) + 1) by omega)
            obtain ⟨v, hv⟩ : ∃ v : Nat, a2 % ((k : Int) + 1) = v := ⟨(a2 % ((k : Int) + 1)).toNat, by omega⟩
            rw [hv] at hmd hv0 hv1
            have hvk : v ≤ k := by omega
            clear hv
            have hh1 := p_handle a5 (m1 q1) A c (show Ent _ _ (.slice A (m1 q1).es.length c) (m1 q1).es from Ent.own o1 hL1) (fun i hi hh => by have h1 := HFLT.out i hh; have h2 := hi.1; omega) (fun x hx => (lgs_mem hx).2.1) (by show (lgs 1 q1).length ≤ _; omega) (by omega)
            rw [st_first q1 hq1'] at hh1
            simp only [m1, Ms.v, hL1, HQ1.out] at hh1
            have hgo := fun (e : Ending) (W : World) (hcall : CallTo wr F p ({ repNew 1 3 with js := ⟨1, -1, lgs 1 q1⟩ }, [⟨4, 1, 0, 1, (k : Int), 0, 0, true, []⟩]) (0 + 700000) e W) => hcall.own f5 N2.out
            have hws := f5.size
            have O1 := Lib.hid o1
            have O2 := Lib.hid o2
            have HH1 := Lib.hid hh1
            have HGO := Lib.hid hgo
            have HMD := Lib.hid hmd
            have A5 := Lib.hid a5
            have F5 := Lib.hid f5
            clear o1 o2 hh1 hgo hmd a5 f5
            go_wp2_with fail
            refine (HMD.out _).mono ?_
            rintro e w6 ⟨rfl, rfl⟩
            go_wp2_with fail
            refine HH1.out.mono ?_
            rintro e w6 q6
            obtain ⟨U6, c6, H6, G6, rfl, m6, a6, n6, g6, k6, f6, i6, f6'⟩ := HGO.out _ _ q6
            have o1' := O1.out.fr' f6' fun g hg hh => by have h1 := O1.out.2 g hg; have h2 := HFLT.out g hh; have h3 := h1.1; omega
            have o2' := O2.out.fr' f6' fun g hg hh => by have h1 := O2.out.2 g hg; have h2 := HFLT.out g hh; have h3 := h1.1; omega
            simp only [List.length_singleton] at m6 ⊢
            have hrow2 : ∀ i, (wr.heap.size ≤ i ∨ F i) → ¬ (w3.heap.size ≤ i ∧ i < wr.heap.size) := fun i hi hh => by
              rcases hi with hi | hi
              · have := hh.2; omega
              · have h1 := HFLT.out i hi; have := hh.1; omega
            have hd1 : ∀ g, Value.ownBlock (.slice A k c) = some g → ¬ H6 g := fun g hg hh => by
              have h1 := O1.out.2 g hg
              have h2 := h1.1
              have h3 := h1.2
              rcases i6 g hh with q | q
              · have := HFLT.out g q; omega
              · omega
            have hd2 : ∀ i, (wr.heap.size ≤ i ∨ False) → True := fun _ _ => trivial
            have hh2 := p_handle a6 (m2 v q2) A2 c2 (show Ent _ _ (.slice A2 (m2 v q2).es.length c2) (m2 v q2).es from Ent.own o2' hL2) (fun i hi hh => by
              have h2 := hi.1
              have h3 := hi.2
              rcases i6 i hh with q | q
              · have := HFLT.out i q; omega
              · omega) (fun x hx => (lgs_mem hx).2.1) (by show (lgs 2 q2).length ≤ _; omega) (by omega)
            have hd22 : ∀ g, Value.ownBlock (.slice A2 j c2) = some g → ¬ H6 g := fun g hg hh => by
              have h1 := O2.out.2 g hg
              have h2 := h1.1
              have h3 := h1.2
              rcases i6 g hh with q | q
              · have := HFLT.out g q; omega
              · omega
            rw [st_second q1 q2 v hq1' hq2' (by rw [HQ1.out]; exact hvk)] at hh2
            simp only [m2, Ms.v, hL2, HQ2.out] at hh2
            have hgo2 := fun (e : Ending) (W : World) hcall => CallTo.own (w0 := w) (w1 := w6) (F := H6) (p := p) (n := 0 + 700000 + 700000) (x := ({ repNew 1 3 with js := ⟨2, -1, if j = 0 then lgs 1 q1 else (lgs 1 q1).take v ++ lgs 2 q2⟩, commit := v }, [⟨4, 1, 2, 2, (v : Int) + (j : Int), 0, 0, true, []⟩])) (e := e) (w' := W) hcall f6 n6
            have hkeep := fun W (hf : Fr H6 w6 W) => (⟨o1'.fr' hf hd1, o2'.fr' hf hd22, m6.fr hf fun i hi hh => k6 i hh hi⟩ : OwnN W _ _ _ _ _ _ ∧ OwnN W _ _ _ _ _ _ ∧ MsgsAt W _ _ _)
            clear HH1 HGO HMD A5 F5 O1 O2 o1' o2' m6 a6 n6 g6 k6 f6 i6 f6' q6 hrow2 hd1 hd2 hd22
            have hpv : (1 < v ∧ ((min v 1 : Nat) : Int) = 1) ∨ (¬ 1 < v ∧ ((min v 1 : Nat) : Int) = (v : Int)) := by omega
            have HH2 := Lib.hid hh2
            have HGO2 := Lib.hid hgo2
            have HKEEP := Lib.hid hkeep
            clear hh2 hgo2 hkeep
            rcases hpv with ⟨x1, x2⟩ | ⟨x1, x2⟩
            all_goals
              have hh2 := HH2.out
              rw [x2] at hh2
              have HH2 := Lib.hid hh2
              clear hh2 x2
            · have y1 : (1 : Int) < (v : Int) := by omega
              go_wp2_with fail
              refine HH2.out.mono ?_
              rintro e w7 q7
              obtain ⟨U7, c7, H7, G7, rfl, m7, a7, n7, g7, k7, f7, i7, f7'⟩ := HGO2.out _ _ q7
              simp only [List.length_singleton] at m7 ⊢
              obtain ⟨o1, o2, m6⟩ := HKEEP.out _ f7'
              obtain ⟨LL, hLL⟩ : ∃ LL, LL = (if j = 0 then lgs 1 q1 else (lgs 1 q1).take v ++ lgs 2 q2) := ⟨_, rfl⟩
              rw [← hLL] at a7
              have hfew : LL.length ≤ 4096 := a7.ok.log.few
              have hlog := fun W (hf : Fr No w7 W) => p_log (a7.frNo hf).rj hfew
              have hcom := fun W (hf : Fr No w7 W) => p_commit (a7.frNo hf)
              have hter := fun W (hf : Fr No w7 W) => p_term (a7.frNo hf).rj
              simp only at hlog hcom hter
              obtain ⟨ba, va, rfl, hba, -, -, hma⟩ := m6.at_ (i := 0) rfl
              obtain ⟨bb, vb, rfl, hbb, -, -, hmb⟩ := m7.at_ (i := 0) rfl
              have hKA := fun W (hf : Fr No w7 W) => hma.frNo hba hf
              have hKB := fun W (hf : Fr No w7 W) => hmb.frNo hbb hf
              simp only [MsCells, Nat.zero_mul, Nat.zero_add] at hKA hKB
              have hkc := o1.cap.1
              have hvc : v ≤ c := by omega
              have hvc2 : (v : Int) ≤ (c : Int) := by omega
              have hcut := o1.cut hvk
              rw [logV_take] at hcut
              have hE1 := fun W (hf : Fr No w7 W) => (Ent.own (o1.frNo hf) hL1 : Ent W _ (.slice A (lgs 1 q1).length c) (lgs 1 q1))
              have hAn : A = none → k = 0 := (let ⟨_, _, e, h⟩ := o1.form; by injection e with e1 e2 e3; subst e1; exact h)
              have hA2n : A2 = none → j = 0 := (let ⟨_, _, e, h⟩ := o2.form; by injection e with e1 e2 e3; subst e1; exact h)
              have hR1 := hcut.rd
              have hR2 := fun W (hf : Fr No w7 W) => (o2.rd.frNo hf (Nat.le_refl _))
              have hl1v : (logV ((lgs 1 q1).take v)).length = v * 10 := by rw [logV_len, List.length_take, hL1]; congr 1; omega
              have hl2v : (logV (lgs 2 q2)).length = j * 10 := by rw [logV_len, hL2]
              clear HH2 HGO2 HKEEP o1 o2 m6 m7 a7 n7 g7 k7 i7 f7' q7 hcut hma hmb HFLT N2
              have HLOG := Lib.hid hlog
              have HCOM := Lib.hid hcom
              have HTER := Lib.hid hter
              have HKA := Lib.hid hKA
              have HKB := Lib.hid hKB
              have HE1 := Lib.hid hE1
              have HAN := Lib.hid hAn
              have HA2N := Lib.hid hA2n
              have HR1 := Lib.hid hR1
              have HR2 := Lib.hid hR2
              have HL1V := Lib.hid hl1v
              have HL2V := Lib.hid hl2v
              have HLL := Lib.hid hLL
              have F7 := Lib.hid f7
              have HL1 := Lib.hid hL1
              have HL2 := Lib.hid hL2
              clear hlog hcom hter hKA hKB hE1 hAn hA2n hR1 hR2 hl1v hl2v hLL f7 hL1 hL2
              go_wp2_with (at_builtin; refine wpList_append_rdN _ rfl (.tmp 93) (.tmp 96) _ rfl 0 TLg i0 _ 10 80 Try.underlying39 hi0 hz0 hz1 hz2 rfl (by decide) (.slice (some ⟨w7.heap.size, 0, none⟩) 0 0) 0 [] rfl ?p1 (w7.heap.size + 1) A v c (logV ((lgs 1 q1).take v)) rfl ?p2 ?p3 ?p4 ?p5 ?p6 ?p7 (Nat.zero_le _) ?_)
              case p1 => exact (OwnN.empty w7 TLg 10).1
              case p2 => exact fun hh => by have := HAN.out hh; omega
              case p3 => exact (HR1.out.frNo (fr_alloc w7 _) (Nat.le_refl _)).mono (by omega)
              case p4 => exact HL1V.out
              case p5 => exact lg_ones _
              case p6 => unfold maxLen; omega
              case p7 => omega
              intro v8 w8 happ
              obtain ⟨o8, f8⟩ := (OwnN.empty w7 TLg 10).appended happ
              rw [List.nil_append, Nat.zero_add] at o8
              obtain ⟨A8, c8, rfl, -⟩ := o8.form
              have F8 := Lib.hid ((fr_alloc w7 (.cells #[] TLg)).transNew f8 fun _ h => h)
              clear happ f8
              have O8 := Lib.hid o8
              clear o8
              have hR28 := HR2.out _ F8.out
              have HR28 := Lib.hid hR28
              clear hR28
              go_wp2_with (at_builtin; refine wpList_append_rdN _ rfl (.tmp 97) (.tmp 98) _ rfl 0 TLg i0 _ 10 80 Try.underlying39 hi0 hz0 hz1 hz2 rfl (by decide) (.slice A8 v c8) v (logV ((lgs 1 q1).take v)) rfl ?r1 w7.heap.size A2 j c2 (logV (lgs 2 q2)) rfl ?r2 ?r3 ?r4 ?r5 ?r6 ?r7 (Nat.zero_le _) ?_)
              case r1 => exact O8.out.1
              case r2 => exact HA2N.out
              case r3 => exact HR28.out
              case r4 => exact HL2V.out
              case r5 => exact lg_ones _
              case r6 => unfold maxLen; omega
              case r7 => omega
              intro v9 w9 happ
              obtain ⟨o9, f9⟩ := O8.out.appended happ
              rw [← lg_append] at o9
              obtain ⟨A9, c9, rfl, -⟩ := o9.form
              have F9 := Lib.hid (F8.out.transNew f9 fun i hi => hi.elim (fun h => h) fun h => by have h1 := h.1; simp at h1; omega)
              clear happ f9 O8
              have HE9 := Lib.hid (fun W (hf : Fr No w9 W) => (Ent.own (o9.frNo hf) (by rw [List.length_append, List.length_take, HL1.out, HL2.out]; omega) : Ent W _ (.slice A9 ((lgs 1 q1).take v ++ lgs 2 q2).length c9) ((lgs 1 q1).take v ++ lgs 2 q2)))
              have hlw : ((lgs 1 q1).take v ++ lgs 2 q2).length = v + j := by rw [List.length_append, List.length_take, HL1.out, HL2.out]; omega
              clear o9
              have HLW := Lib.hid hlw
              clear hlw
              by_cases hj0 : j = 0
              · have z1 : (j == 0) = true := by simpa using hj0
                have z2 : ((j : Int) == 0) = true := by simp; omega
                have hLe : LL = lgs 1 q1 := by rw [HLL.out, if_pos hj0]
                obtain ⟨a0', a1', a2', a3', a4', a5', a6', a7', a8'⟩ := HKA.out _ F9.out
                obtain ⟨b0', b1', b2', b3', b4', b5', b6', b7', b8'⟩ := HKB.out _ F9.out
                clear hj0
                have HLE := Lib.hid hLe
                clear hLe
                go_wp2_with fail
                refine (HLOG.out _ F9.out).mono ?_
                rintro e w10 ⟨A10, c10, rfl, o10, f10⟩
                have hsm := same_logged (Ent.of_own o10) (HE1.out _ (F9.out.transNo f10))
                rw [decide_eq_true HLE.out, HL1.out] at hsm
                have F10 := Lib.hid (F9.out.transNo f10)
                clear o10 f10 a0' a1' a2' a3' a4' a5' a6' a7' a8' b0' b1' b2' b3' b4' b5' b6' b7' b8'
                have HSM := Lib.hid hsm
                clear hsm
                go_wp2_with fail
                refine HSM.out.mono ?_
                rintro e w11 ⟨rfl, f11⟩
                have F11 := Lib.hid (F10.out.transNo f11)
                clear f11
                go_wp2_with fail
                refine (HCOM.out _ F11.out).mono ?_
                rintro e w12 ⟨rfl, rfl⟩
                go_wp2_with fail
                refine (HTER.out _ F11.out).mono ?_
                rintro e w12 ⟨rfl, rfl⟩
                go_wp2_with fail
                go_ret
                exact ⟨ret_bool rfl, (F7.out.transNo F11.out).belowNo⟩
              · have z1 : (j == 0) = false := by simpa using hj0
                have z2 : ((j : Int) == 0) = false := by simp; omega
                have hLe : LL = (lgs 1 q1).take v ++ lgs 2 q2 := by rw [HLL.out, if_neg hj0]
                obtain ⟨a0', a1', a2', a3', a4', a5', a6', a7', a8'⟩ := HKA.out _ F9.out
                obtain ⟨b0', b1', b2', b3', b4', b5', b6', b7', b8'⟩ := HKB.out _ F9.out
                clear hj0
                have HLE := Lib.hid hLe
                clear hLe
                go_wp2_with fail
                refine (HLOG.out _ F9.out).mono ?_
                rintro e w10 ⟨A10, c10, rfl, o10, f10⟩
                have hsm := same_logged (Ent.of_own o10) (HE9.out _ f10)
                rw [decide_eq_true HLE.out, HLW.out] at hsm
                have F10 := Lib.hid (F9.out.transNo f10)
                clear o10 f10 a0' a1' a2' a3' a4' a5' a6' a7' a8' b0' b1' b2' b3' b4' b5' b6' b7' b8'
                have HSM := Lib.hid hsm
                clear hsm
                go_wp2_with fail
                refine HSM.out.mono ?_
                rintro e w11 ⟨rfl, f11⟩
                have F11 := Lib.hid (F10.out.transNo f11)
                clear f11
                go_wp2_with fail
                refine (HCOM.out _ F11.out).mono ?_
                rintro e w12 ⟨rfl, rfl⟩
                go_wp2_with fail
                refine (HTER.out _ F11.out).mono ?_
                rintro e w12 ⟨rfl, rfl⟩
                go_wp2_with fail
                go_ret
                exact ⟨ret_bool rfl, (F7.out.transNo F11.out).belowNo⟩
            · have y1 : ¬ (1 : Int) < (v : Int) := by omega
              go_wp2_with fail
              refine HH2.out.mono ?_
              rintro e w7 q7
              obtain ⟨U7, c7, H7, G7, rfl, m7, a7, n7, g7, k7, f7, i7, f7'⟩ := HGO2.out _ _ q7
              simp only [List.length_singleton] at m7 ⊢
              obtain ⟨o1, o2, m6⟩ := HKEEP.out _ f7'
              obtain ⟨LL, hLL⟩ : ∃ LL, LL = (if j = 0 then lgs 1 q1 else (lgs 1 q1).take v ++ lgs 2 q2) := ⟨_, rfl⟩
              rw [← hLL] at a7
              have hfew : LL.length ≤ 4096 := a7.ok.log.few
              have hlog := fun W (hf : Fr No w7 W) => p_log (a7.frNo hf).rj hfew
              have hcom := fun W (hf : Fr No w7 W) => p_commit (a7.frNo hf)
              have hter := fun W (hf : Fr No w7 W) => p_term (a7.frNo hf).rj
              simp only at hlog hcom hter
              obtain ⟨ba, va, rfl, hba, -, -, hma⟩ := m6.at_ (i := 0) rfl
              obtain ⟨bb, vb, rfl, hbb, -, -, hmb⟩ := m7.at_ (i := 0) rfl
              have hKA := fun W (hf : Fr No w7 W) => hma.frNo hba hf
              have hKB := fun W (hf : Fr No w7 W) => hmb.frNo hbb hf
              simp only [MsCells, Nat.zero_mul, Nat.zero_add] at hKA hKB
              have hkc := o1.cap.1
              have hvc : v ≤ c := by omega
              have hvc2 : (v : Int) ≤ (c : Int) := by omega
              have hcut := o1.cut hvk
              rw [logV_take] at hcut
              have hE1 := fun W (hf : Fr No w7 W) => (Ent.own (o1.frNo hf) hL1 : Ent W _ (.slice A (lgs 1 q1).length c) (lgs 1 q1))
              have hAn : A = none → k = 0 := (let ⟨_, _, e, h⟩ := o1.form; by injection e with e1 e2 e3; subst e1; exact h)
              have hA2n : A2 = none → j = 0 := (let ⟨_, _, e, h⟩ := o2.form; by injection e with e1 e2 e3; subst e1; exact h)
              have hR1 := hcut.rd
              have hR2 := fun W (hf : Fr No w7 W) => (o2.rd.frNo hf (Nat.le_refl _))
              have hl1v : (logV ((lgs 1 q1).take v)).length = v * 10 := by rw [logV_len, List.length_take, hL1]; congr 1; omega
              have hl2v : (logV (lgs 2 q2)).length = j * 10 := by rw [logV_len, hL2]
              clear HH2 HGO2 HKEEP o1 o2 m6 m7 a7 n7 g7 k7 i7 f7' q7 hcut hma hmb HFLT N2
              have HLOG := Lib.hid hlog
              have HCOM := Lib.hid hcom
              have HTER := Lib.hid hter
              have HKA := Lib.hid hKA
              have HKB := Lib.hid hKB
              have HE1 := Lib.hid hE1
              have HAN := Lib.hid hAn
              have HA2N := Lib.hid hA2n
              have HR1 := Lib.hid hR1
              have HR2 := Lib.hid hR2
              have HL1V := Lib.hid hl1v
              have HL2V := Lib.hid hl2v
              have HLL := Lib.hid hLL
              have F7 := Lib.hid f7
              have HL1 := Lib.hid hL1
              have HL2 := Lib.hid hL2
              clear hlog hcom hter hKA hKB hE1 hAn hA2n hR1 hR2 hl1v hl2v hLL f7 hL1 hL2
              go_wp2_with (at_builtin; refine wpList_append_rdN _ rfl (.tmp 93) (.tmp 96) _ rfl 0 TLg i0 _ 10 80 Try.underlying39 hi0 hz0 hz1 hz2 rfl (by decide) (.slice (some ⟨w7.heap.size, 0, none⟩) 0 0) 0 [] rfl ?pp1 (w7.heap.size + 1) A v c (logV ((lgs 1 q1).take v)) rfl ?pp2 ?pp3 ?pp4 ?pp5 ?pp6 ?pp7 (Nat.zero_le _) ?_)
              case pp1 => exact (OwnN.empty w7 TLg 10).1
              case pp2 => exact fun hh => by have := HAN.out hh; omega
              case pp3 => exact (HR1.out.frNo (fr_alloc w7 _) (Nat.le_refl _)).mono (by omega)
              case pp4 => exact HL1V.out
              case pp5 => exact lg_ones _
              case pp6 => unfold maxLen; omega
              case pp7 => omega
              intro v8 w8 happ
              obtain ⟨o8, f8⟩ := (OwnN.empty w7 TLg 10).appended happ
              rw [List.nil_append, Nat.zero_add] at o8
              obtain ⟨A8, c8, rfl, -⟩ := o8.form
              have F8 := Lib.hid ((fr_alloc w7 (.cells #[] TLg)).transNew f8 fun _ h => h)
              clear happ f8
              have O8 := Lib.hid o8
              clear o8
              have hR28 := HR2.out _ F8.out
              have HR28 := Lib.hid hR28
              clear hR28
              go_wp2_with (at_builtin; refine wpList_append_rdN _ rfl (.tmp 97) (.tmp 98) _ rfl 0 TLg i0 _ 10 80 Try.underlying39 hi0 hz0 hz1 hz2 rfl (by decide) (.slice A8 v c8) v (logV ((lgs 1 q1).take v)) rfl ?rr1 w7.heap.size A2 j c2 (logV (lgs 2 q2)) rfl ?rr2 ?rr3 ?rr4 ?rr5 ?rr6 ?rr7 (Nat.zero_le _) ?_)
              case rr1 => exact O8.out.1
              case rr2 => exact HA2N.out
              case rr3 => exact HR28.out
              case rr4 => exact HL2V.out
              case rr5 => exact lg_ones _
              case rr6 => unfold maxLen; omega
              case rr7 => omega
              intro v9 w9 happ
              obtain ⟨o9, f9⟩ := O8.out.appended happ
              rw [← lg_append] at o9
              obtain ⟨A9, c9, rfl, -⟩ := o9.form
              have F9 := Lib.hid (F8.out.transNew f9 fun i hi => hi.elim (fun h => h) fun h => by have h1 := h.1; simp at h1; omega)
              clear happ f9 O8
              have HE9 := Lib.hid (fun W (hf : Fr No w9 W) => (Ent.own (o9.frNo hf) (by rw [List.length_append, List.length_take, HL1.out, HL2.out]; omega) : Ent W _ (.slice A9 ((lgs 1 q1).take v ++ lgs 2 q2).length c9) ((lgs 1 q1).take v ++ lgs 2 q2)))
              have hlw : ((lgs 1 q1).take v ++ lgs 2 q2).length = v + j := by rw [List.length_append, List.length_take, HL1.out, HL2.out]; omega
              clear o9
              have HLW := Lib.hid hlw
              clear hlw
              by_cases hj0 : j = 0
              · have z1 : (j == 0) = true := by simpa using hj0
                have z2 : ((j : Int) == 0) = true := by simp; omega
                have hLe : LL = lgs 1 q1 := by rw [HLL.out, if_pos hj0]
                obtain ⟨a0', a1', a2', a3', a4', a5', a6', a7', a8'⟩ := HKA.out _ F9.out
                obtain ⟨b0', b1', b2', b3', b4', b5', b6', b7', b8'⟩ := HKB.out _ F9.out
                clear hj0
                have HLE := Lib.hid hLe
                clear hLe
                go_wp2_with fail
                refine (HLOG.out _ F9.out).mono ?_
                rintro e w10 ⟨A10, c10, rfl, o10, f10⟩
                have hsm := same_logged (Ent.of_own o10) (HE1.out _ (F9.out.transNo f10))
                rw [decide_eq_true HLE.out, HL1.out] at hsm
                have F10 := Lib.hid (F9.out.transNo f10)
                clear o10 f10 a0' a1' a2' a3' a4' a5' a6' a7' a8' b0' b1' b2' b3' b4' b5' b6' b7' b8'
                have HSM := Lib.hid hsm
                clear hsm
                go_wp2_with fail
                refine HSM.out.mono ?_
                rintro e w11 ⟨rfl, f11⟩
                have F11 := Lib.hid (F10.out.transNo f11)
                clear f11
                go_wp2_with fail
                refine (HCOM.out _ F11.out).mono ?_
                rintro e w12 ⟨rfl, rfl⟩
                go_wp2_with fail
                refine (HTER.out _ F11.out).mono ?_
                rintro e w12 ⟨rfl, rfl⟩
                go_wp2_with fail
                go_ret
                exact ⟨ret_bool rfl, (F7.out.transNo F11.out).belowNo⟩
              · have z1 : (j == 0) = false := by simpa using hj0
                have z2 : ((j : Int) == 0) = false := by simp; omega
                have hLe : LL = (lgs 1 q1).take v ++ lgs 2 q2 := by rw [HLL.out, if_neg hj0]
                obtain ⟨a0', a1', a2', a3', a4', a5', a6', a7', a8'⟩ := HKA.out _ F9.out
                obtain ⟨b0', b1', b2', b3', b4', b5', b6', b7', b8'⟩ := HKB.out _ F9.out
                clear hj0
                have HLE := Lib.hid hLe
                clear hLe
                go_wp2_with fail
                refine (HLOG.out _ F9.out).mono ?_
                rintro e w10 ⟨A10, c10, rfl, o10, f10⟩
                have hsm := same_logged (Ent.of_own o10) (HE9.out _ f10)
                rw [decide_eq_true HLE.out, HLW.out] at hsm
                have F10 := Lib.hid (F9.out.transNo f10)
                clear o10 f10 a0' a1' a2' a3' a4' a5' a6' a7' a8' b0' b1' b2' b3' b4' b5' b6' b7' b8'
                have HSM := Lib.hid hsm
                clear hsm
                go_wp2_with fail
                refine HSM.out.mono ?_
                rintro e w11 ⟨rfl, f11⟩
                have F11 := Lib.hid (F10.out.transNo f11)
                clear f11
                go_wp2_with fail
                refine (HCOM.out _ F11.out).mono ?_
                rintro e w12 ⟨rfl, rfl⟩
                go_wp2_with fail
                refine (HTER.out _ F11.out).mono ?_
                rintro e w12 ⟨rfl, rfl⟩
                go_wp2_with fail
                go_ret
                exact ⟨ret_bool rfl, (F7.out.transNo F11.out).belowNo⟩
end Go.Proofs.Ytneeajegegmigaa
