/-
  Several texts in one: QwB, QwC.
-/
import Derived.Test.YtokblidfekbeeaaZ31
import Derived.Test.YtokblidfekbeeaaZ20
/- The quorum's laws: the best replica of a set. -/
namespace Go.Proofs.Ytokblidfekbeeaa
open Go.ChangeShapes Go.WideShapes Go.ChangeAt Go.RowKit
set_option linter.unusedVariables false
/-- What the loop over the first i replicas knows. -/
def BestAt (rs : Nat → Rs) (up : Int) (i : Nat) (out term : Int) (size : Nat) : Prop :=
  (out = -1 ∧ ∀ j, j < i → ¬ bitU up j) ∨ (∃ b : Nat, out = b ∧ b < i ∧ bitU up b ∧ term = lastT (rs b).js.log ∧ size = (rs b).js.log.length ∧ ∀ j, j < i → bitU up j → Better (rs b).js.log (rs j).js.log)
theorem Better.trans {a b c : List Lg} (h : Better a b) (k : Better b c) : Better a c := by
  unfold Better at *
  rcases h with h | ⟨h, h'⟩ <;> rcases k with k | ⟨k, k'⟩
  · exact .inl (by omega)
  · exact .inl (by omega)
  · exact .inl (by omega)
  · exact .inr ⟨by omega, by omega⟩
theorem BestAt.yes {rs : Nat → Rs} {up : Int} {i : Nat} {out term : Int} {size : Nat} (h : BestAt rs up i out term size) (hb : bitU up i) (hc : out < 0 ∨ term < lastT (rs i).js.log ∨ (lastT (rs i).js.log = term ∧ size < (rs i).js.log.length)) :
    BestAt rs up (i + 1) i (lastT (rs i).js.log) (rs i).js.log.length := by
  refine .inr ⟨i, rfl, Nat.lt_succ_self i, hb, rfl, rfl, fun j hj hbj => ?_⟩
  by_cases e : j = i
  · rw [e]; exact Better.refl _
  · rcases h with ⟨h1, h2⟩ | ⟨b, h1, h2, h3, h4, h5, h6⟩
    · exact absurd hbj (h2 j (by omega))
    · refine Better.trans ?_ (h6 j (by omega) hbj)
      unfold Better
      rcases hc with hc | hc | ⟨hc, hc'⟩
      · omega
      · exact .inl (by omega)
      · exact .inr ⟨by omega, by omega⟩
theorem BestAt.no {rs : Nat → Rs} {up : Int} {i : Nat} {out term : Int} {size : Nat} (h : BestAt rs up i out term size) (hc : bitU up i → ¬ (out < 0 ∨ term < lastT (rs i).js.log ∨ (lastT (rs i).js.log = term ∧ size < (rs i).js.log.length))) :
    BestAt rs up (i + 1) out term size := by
  rcases h with ⟨h1, h2⟩ | ⟨b, h1, h2, h3, h4, h5, h6⟩
  · refine .inl ⟨h1, fun j hj hbj => ?_⟩
    by_cases e : j = i
    · subst e
      exact hc hbj (.inl (by omega))
    · exact h2 j (by omega) hbj
  · refine .inr ⟨b, h1, by omega, h3, h4, h5, fun j hj hbj => ?_⟩
    by_cases e : j = i
    · subst e
      have := hc hbj
      unfold Better
      rcases (show lastT (rs j).js.log < lastT (rs b).js.log ∨ lastT (rs b).js.log ≤ lastT (rs j).js.log from by omega) with hl | hl
      · exact .inl hl
      · exact .inr ⟨by omega, by omega⟩
    · exact h6 j (by omega) hbj
theorem bit_tmod (up : Int) (i : Nat) : ((up / 2 ^ i).tmod 2 != 0) = decide (bitU up i) := by
  unfold bitU
  rw [Int.shiftRight_eq_div_pow]
  have h2 : ((2 ^ i : Nat) : Int) = (2 : Int) ^ i := by simp
  rw [h2]
  generalize up / 2 ^ i = x
  have : x.tmod 2 = 0 ↔ x % 2 = 0 := by
    constructor
    · intro h
      have := Int.dvd_of_tmod_eq_zero h
      omega
    · intro h
      exact Int.tmod_eq_zero_of_dvd (by omega)
  by_cases h : x % 2 = 0
  · simp [h, this.2 h]
  · simp [h, mt this.1 h]
section
variable {w w' wr : World} {lab lab' : Nat → Option Nat} {z n m N : Nat} {pv : Nat → Nat} {q q1 : Qs} {F : Nat → Prop} {g : Gh}
set_option maxRecDepth 100000 in
set_option maxHeartbeats 8000000 in
theorem best_any (h : QAt w lab z pv q n) (up : Int) : Calls Try.prog 23 #[.pointer (some ⟨z, 0, none⟩), .int .i64 (q.n : Int), .int .i64 up] w fun e w' => ∃ out term size, e = .returned (.int .i64 out) ∧ BestAt q.rs up q.n out term size ∧ Fr No w w' := by
  have hlog := fun W (hf : Fr No w W) i (hi : i < q.n) => q_Log (h.frNo hf) i hi
  have h5 := h.ok.five
  have hfw := fun i (hi : i < q.n) => (h.ok.each i hi).1.log.few
  obtain ⟨N, hN⟩ : ∃ N, N = q.n := ⟨_, rfl⟩
  rw [← hN] at hlog h5 hfw ⊢
  clear h hN
  have HLOG := Lib.hid hlog
  have HFW := Lib.hid hfw
  clear hlog hfw
  go_enter Try.func23, Try.ntmps23
  go_wp2_with fail
  go_loopw [7, 8, 9, 10] (fun ov tv sv iv wr => ∃ (i : Nat) (out term : Int) (size : Nat), i ≤ N ∧ iv = .int .i64 i ∧ ov = .int .i64 out ∧ tv = .int .i64 term ∧ sv = .int .i64 (size : Int) ∧ BestAt q.rs up i out term size ∧ Fr No w wr) (fun _ _ _ iv _ => N - (intOf iv).toNat)
  case atStart => exact ⟨0, -1, 0, 0, Nat.zero_le _, rfl, rfl, rfl, rfl, .inl ⟨rfl, fun j hj => absurd hj (Nat.not_lt_zero j)⟩, Fr.refl _ _⟩
  case round =>
    obtain ⟨i, out, term, size, hi, rfl, rfl, rfl, rfl, hB, hf⟩ := hrel
    by_cases hlt : i < N
    case neg =>
      obtain rfl : i = N := by omega
      have b1 : decide (i < i) = false := by simp
      have b2 : decide ((i : Int) < (i : Int)) = false := by simp
      have HB := Lib.hid hB
      have HF := Lib.hid hf
      clear hB hf b2
      go_wp2_with fail
      go_ret
      exact ⟨out, term, size, rfl, HB.out, HF.out⟩
    have b1 : decide (i < N) = true := decide_eq_true hlt
    have b2 : decide ((i : Int) < (N : Int)) = true := decide_eq_true (by omega)
    have hlg := Lib.hid (HLOG.out _ hf i hlt)
    have hln := HFW.out i hlt
    have hbt := bit_tmod up i
    have hi64 : i < 64 := by omega
    have hy := BestAt.yes hB
    have hn := BestAt.no hB
    have hob : out = -1 ∨ 0 ≤ out := by
      rcases hB with ⟨h1, -⟩ | ⟨b, h1, -⟩
      · exact .inl h1
      · exact .inr (by omega)
    have HF := Lib.hid hf
    clear hf hB HLOG HFW
    generalize hL : (q.rs i).js.log = LL at *
    clear hL
    have HY := Lib.hid hy
    have HN := Lib.hid hn
    clear hy hn
    go_wp2_with fail
    refine hlg.out.mono ?_
    rintro e w5 ⟨A, c, rfl, o5, f5⟩
    have hca := o5.cap
    have hat := fun j hj => (Ent.of_own o5).at_ (i := j) hj
    have F5 := Lib.hid (HF.out.transNo f5)
    unfold maxLen at hca
    clear o5 f5 hlg HF
    rcases Nat.eq_zero_or_pos LL.length with hl0 | hlp
    · obtain rfl : LL = [] := List.eq_nil_of_length_eq_zero hl0
      have hlt0 : lastT ([] : List Lg) = 0 := by unfold lastT termAt; rfl
      rw [hlt0] at HY HN
      simp only [List.length_nil] at HY HN ⊢
      clear hat hl0 hlt0
      by_cases hb : bitU up i
      case neg =>
        rw [decide_eq_false hb] at hbt
        have T9 := Lib.hid (HN.out fun hh => absurd hh hb)
        clear hb hob HY HN
        go_wp2_with fail
        go_roundw
        case rel => exact ⟨i + 1, out, term, size, by omega, by go_num, rfl, rfl, rfl, T9.out, F5.out⟩
        case measure => simp [intOf]; omega
      rw [decide_eq_true hb] at hbt
      rcases hob with rfl | hob
      · have T9 := Lib.hid (HY.out hb (.inl (by omega)))
        clear hb HY HN
        go_wp2_with fail
        go_roundw
        case rel => exact ⟨i + 1, i, 0, 0, by omega, by go_num, rfl, rfl, rfl, T9.out, F5.out⟩
        case measure => simp [intOf]; omega
      have n0 : decide (out < 0) = false := decide_eq_false (by omega)
      by_cases h1 : term < 0
      · have g1 : decide (term < 0) = true := decide_eq_true h1
        have T9 := Lib.hid (HY.out hb (.inr (.inl h1)))
        clear hb HY HN h1
        go_wp2_with fail
        go_roundw
        case rel => exact ⟨i + 1, i, 0, 0, by omega, by go_num, rfl, rfl, rfl, T9.out, F5.out⟩
        case measure => simp [intOf]; omega
      have g1 : decide (term < 0) = false := decide_eq_false h1
      by_cases h2 : 0 = term
      case neg =>
        have g2 : (0 == term) = false := by simpa using h2
        have T9 := Lib.hid (HN.out fun _ => by omega)
        clear hb HY HN h1 h2
        go_wp2_with fail
        go_roundw
        case rel => exact ⟨i + 1, out, term, size, by omega, by go_num, rfl, rfl, rfl, T9.out, F5.out⟩
        case measure => simp [intOf]; omega
      have g2 : (0 == term) = true := by simpa using h2
      by_cases h3 : size < 0
      · have g3 : decide (size < 0) = true := decide_eq_true h3
        have g4 : decide ((size : Int) < 0) = true := decide_eq_true (by omega)
        have T9 := Lib.hid (HY.out hb (.inr (.inr ⟨h2, h3⟩)))
        clear hb HY HN h1 h2 h3
        go_wp2_with fail
        go_roundw
        case rel => exact ⟨i + 1, i, 0, 0, by omega, by go_num, rfl, rfl, rfl, T9.out, F5.out⟩
        case measure => simp [intOf]; omega
      · have g3 : decide (size < 0) = false := decide_eq_false h3
        have g4 : decide ((size : Int) < 0) = false := decide_eq_false (by omega)
        have T9 := Lib.hid (HN.out fun _ => by omega)
        clear hb HY HN h1 h2 h3
        go_wp2_with fail
        go_roundw
        case rel => exact ⟨i + 1, out, term, size, by omega, by go_num, rfl, rfl, rfl, T9.out, F5.out⟩
        case measure => simp [intOf]; omega
    · obtain ⟨b, off, x, rfl, hx, hxc⟩ := hat (LL.length - 1) (by omega)
      obtain ⟨x0, -⟩ := hxc w5 (Fr.refl _ _)
      have hlt1 : lastT LL = x.term := by
        unfold lastT
        rw [show ((LL.length : Int) - 1) = ((LL.length - 1 : Nat) : Int) from by omega]
        exact termAt_at hx
      rw [hlt1] at HY HN
      obtain ⟨M, hM⟩ : ∃ M, LL.length = M + 1 := ⟨LL.length - 1, by omega⟩
      rw [hM] at HY HN x0 hca hln ⊢
      have x0' : w5.cell? ⟨b, off + M * 10, none⟩ = some (.int .i64 x.term) := x0
      generalize x.term = T at *
      have hw1 : IntKind.i64.wrap (((M + 1 : Nat) : Int) - 1) = (M : Int) := by rw [IntWalk.i64_in _ (by omega)]; omega
      have hw2 : IntKind.i64.wrap ((M : Int) + 1 - 1) = (M : Int) := by rw [IntWalk.i64_in _ (by omega)]; omega
      have hw3 : IntKind.i64.wrap (M : Int) = (M : Int) := IntWalk.i64_in _ (by omega)
      have p1 : decide (0 < M + 1) = true := by simp
      have p2 : decide ((0 : Int) < ((M + 1 : Nat) : Int)) = true := decide_eq_true (by omega)
      clear hat hlp hxc hx hlt1 x0
      clear hM
      by_cases hb : bitU up i
      case neg =>
        rw [decide_eq_false hb] at hbt
        have T9 := Lib.hid (HN.out fun hh => absurd hh hb)
        clear hb hob HY HN
        go_wp2_with fail
        go_roundw
        case rel => exact ⟨i + 1, out, term, size, by omega, by go_num, rfl, rfl, rfl, T9.out, F5.out⟩
        case measure => simp [intOf]; omega
      rw [decide_eq_true hb] at hbt
      rcases hob with rfl | hob
      · have T9 := Lib.hid (HY.out hb (.inl (by omega)))
        clear hb HY HN
        go_wp2_with fail
        go_roundw
        case rel => exact ⟨i + 1, i, T, (M + 1), by omega, by go_num, rfl, rfl, rfl, T9.out, F5.out⟩
        case measure => simp [intOf]; omega
      have n0 : decide (out < 0) = false := decide_eq_false (by omega)
      by_cases h1 : term < T
      · have g1 : decide (term < T) = true := decide_eq_true h1
        have T9 := Lib.hid (HY.out hb (.inr (.inl h1)))
        clear hb HY HN h1
        go_wp2_with fail
        go_roundw
        case rel => exact ⟨i + 1, i, T, (M + 1), by omega, by go_num, rfl, rfl, rfl, T9.out, F5.out⟩
        case measure => simp [intOf]; omega
      have g1 : decide (term < T) = false := decide_eq_false h1
      by_cases h2 : T = term
      case neg =>
        have g2 : (T == term) = false := by simpa using h2
        have T9 := Lib.hid (HN.out fun _ => by omega)
        clear hb HY HN h1 h2
        go_wp2_with fail
        go_roundw
        case rel => exact ⟨i + 1, out, term, size, by omega, by go_num, rfl, rfl, rfl, T9.out, F5.out⟩
        case measure => simp [intOf]; omega
      have g2 : (T == term) = true := by simpa using h2
      by_cases h3 : size < (M + 1)
      · have g3 : decide (size < (M + 1)) = true := decide_eq_true h3
        have g4 : decide ((size : Int) < ((M + 1) : Int)) = true := decide_eq_true (by omega)
        have T9 := Lib.hid (HY.out hb (.inr (.inr ⟨h2, h3⟩)))
        clear hb HY HN h1 h2 h3
        go_wp2_with fail
        go_roundw
        case rel => exact ⟨i + 1, i, T, (M + 1), by omega, by go_num, rfl, rfl, rfl, T9.out, F5.out⟩
        case measure => simp [intOf]; omega
      · have g3 : decide (size < (M + 1)) = false := decide_eq_false h3
        have g4 : decide ((size : Int) < ((M + 1) : Int)) = false := decide_eq_false (by omega)
        have T9 := Lib.hid (HN.out fun _ => by omega)
        clear hb HY HN h1 h2 h3
        go_wp2_with fail
        go_roundw
        case rel => exact ⟨i + 1, out, term, size, by omega, by go_num, rfl, rfl, rfl, T9.out, F5.out⟩
        case measure => simp [intOf]; omega
end
end Go.Proofs.Ytokblidfekbeeaa
/- The walk of QuorumCommits. -/
namespace Go.Proofs.Ytokblidfekbeeaa
open Go.ChangeShapes Go.WideShapes Go.ChangeAt Go.RowKit
set_option linter.unusedVariables false
/-- The quorum behind i campaigns of k that were flushed. -/
def Cam (up : Int) (k : Nat) (q1 : Qs) : Nat → Qs → Prop
  | 0, q => q = q1
  | i + 1, q => ∃ p c, Cam up k q1 i p ∧ Flushes up (p.act 1 (k : Int) 0 zeroE) 0 q c
theorem BestAt.final {rs : Nat → Rs} {up : Int} {N : Nat} {out term : Int} {size : Nat} (h : BestAt rs up N out term size) (hU : MajU up N) : ∃ b : Nat, out = b ∧ b < N ∧ bitU up b ∧ ∀ j, j < N → bitU up j → Better (rs b).js.log (rs j).js.log := by
  obtain ⟨i, hi, hb⟩ := cntB_pos (c := fun i => decide (bitU up i)) (n := N) (by have : N < 2 * cntB (fun i => decide (bitU up i)) N := hU; omega)
  have hb : bitU up i := by simpa using hb
  rcases h with ⟨-, h⟩ | ⟨b, h1, h2, h3, -, -, h6⟩
  · exact absurd hb (h i hi)
  · exact ⟨b, h1, h2, h3, h6⟩
/-- How many of the first i belong to the set. -/
def bcU (up : Int) (i : Nat) : Nat := cntB (fun j => decide (bitU up j)) i
def bI (up : Int) (i : Nat) : Nat := if bitU up i then 1 else 0
theorem bcU_succ (up : Int) (i : Nat) : bcU up (i + 1) = bcU up i + bI up i := by
  unfold bcU bI
  rw [cntB]
  by_cases h : bitU up i <;> simp [h]
theorem bI_le (up : Int) (i : Nat) : bI up i ≤ 1 := by unfold bI; split <;> omega
theorem bcU_le (up : Int) : ∀ i, bcU up i ≤ i := by
  intro i
  induction i with
  | zero => exact Nat.le_refl _
  | succ i ih => have := bI_le up i; rw [bcU_succ]; omega
theorem bit_rem {up : Int} (h0 : 0 ≤ up) (i : Nat) : (up / 2 ^ i).tmod 2 = (bI up i : Int) := by
  have h1 := bit_tmod up i
  have h2 : 0 ≤ up / 2 ^ i := Int.ediv_nonneg h0 (by have := Int.pow_pos (n := 2) (m := i) (by decide); omega)
  generalize up / 2 ^ i = x at *
  have h3 : x.tmod 2 = x % 2 := Int.tmod_eq_emod_of_nonneg h2
  rw [h3] at h1 ⊢
  unfold bI
  by_cases hb : bitU up i
  · simp [hb] at h1 ⊢; omega
  · simp [hb] at h1 ⊢; omega
theorem pow_wrap {N : Nat} (h : N = 1 ∨ N = 3 ∨ N = 5) : 0 < wrap64 ((2 : Int) ^ N) ∧ wrap64 ((2 : Int) ^ N) ≤ 4611686018427387904 := by
  rcases h with rfl | rfl | rfl <;> decide +kernel
theorem shr_eq (up : Int) (i : Nat) : up >>> i = up / 2 ^ i := by
  rw [Int.shiftRight_eq_div_pow]
  simp
/-- The replica k has been made to campaign i times. -/
theorem Cam.two {up : Int} {k : Nat} {q1 q : Qs} (h : Cam up k q1 2 q) : ∃ p c1 c2, Flushes up (q1.act 1 (k : Int) 0 zeroE) 0 p c1 ∧ Flushes up (p.act 1 (k : Int) 0 zeroE) 0 q c2 := by
  obtain ⟨p, c, ⟨p0, c0, rfl, h1⟩, h2⟩ := h
  exact ⟨p, c0, c, h1, h2⟩
section
variable {w w' wr : World} {lab lab' : Nat → Option Nat} {z n m N : Nat} {pv : Nat → Nat} {q q1 : Qs} {F : Nat → Prop} {g : Gh}
theorem h_do (h : QIn w lab z pv q g N n wr) (kind who num : Int) (e : En) (he : e.ok) (hsz : n + 800000 ≤ 140737488355328) :
    Calls Try.prog 24 #[.pointer (some ⟨z, 0, none⟩), actV kind who num e] wr fun x w' => x = .returned (.int .i64 (q.actX kind who num e)) ∧ ∃ lab' g', QIn w lab' z pv (q.act kind who num e) g' N (n + 700000) w' := by
  refine (q_do h.at_ kind who num e he hsz).mono ?_
  rintro x w' ⟨rfl, t⟩
  obtain ⟨f, lab', a, b, -⟩ := QTo.frNo t h.fr h.new
  obtain ⟨g', i1, -, -⟩ := h.inv.act kind who num e he
  exact ⟨rfl, lab', g', a, b, f, i1, (act_n _ _ _ _ _).trans h.n_⟩
theorem h_flush (h : QIn w lab z pv q g N n wr) (up : Int) (hsz : n + 4000000000 ≤ 140737488355328) :
    Calls Try.prog 22 #[.pointer (some ⟨z, 0, none⟩), .int .i64 up] wr fun e w' => ∃ (k' : Nat) (q' : Qs), e = .returned (.int .i64 k') ∧ Flushes up q 0 q' k' ∧ ∃ lab' g', QIn w lab' z pv q' g' N (n + 4000000000) w' := by
  refine (q_flush h.at_ up hsz).mono ?_
  rintro e w' ⟨k', q', rfl, -, hf, t⟩
  obtain ⟨f, lab', a, b, -⟩ := QTo.frNo t h.fr h.new
  obtain ⟨g', i1, -, -⟩ := QInv.flush hf h.inv
  exact ⟨k', q', rfl, hf, lab', g', a, b, f, i1, hf.n.trans h.n_⟩
theorem h_play (h : QIn w lab z pv q g N 0 wr) {s : Nat} {A : Option Addr} {c len : Nat} {l : List JAct} (hl : StepsAt w A l) (hc : l.length = len) (h30 : len ≤ 30) (hb : QBd q 0) :
    Calls Try.prog 13 #[.pointer (some ⟨z, 0, none⟩), .slice A len c, .int .i64 (N : Int)] wr fun e w' => e = .returned (.tuple #[]) ∧ ∃ q' lab' g', QIn w lab' z pv q' g' N 200000000000 w' ∧ QBd q' 30 := by
  have hp := play_any (c := c) h.at_ h.new h.fr hl (by omega)
  rw [hc, h.n_] at hp
  refine hp.mono ?_
  rintro e w' ⟨rfl, q', hpl, t⟩
  obtain ⟨f, lab', a, b, -⟩ := QTo.frNo t h.fr h.new
  obtain ⟨g', i1, -, -⟩ := hpl.inv h.inv
  obtain ⟨hbd, -⟩ := hpl.bd hb h.at_.ok
  exact ⟨rfl, q', lab', g', ⟨a.more (by omega), b, f, i1, hpl.n.trans h.n_⟩, hbd.up (by omega)⟩
end
set_option maxRecDepth 100000 in
set_option maxHeartbeats 8000000 in
theorem QuorumCommits_walk (a0 : Int) (v1 : Value) (a2 : Int) (w : World) (w0 : (Lit.int .i64 a0).wf = true) (w1 : In_steps w v1) (w2 : (Lit.int .i64 a2).wf = true) :
    Calls Try.prog 7 #[.int .i64 a0, v1, .int .i64 a2] w fun e w' => e = .returned (.bool true) ∧ Below w.heap.size w w' := by
  obtain ⟨A, len, cap, acts, rfl, hacts, hlc, hM⟩ := w1
  unfold maxLen at hM
  obtain ⟨N, hN0, hN5, hN1, hodd⟩ := odd_any a0 w
  have hnew := fun W => q_new N W hN5 hN1
  have HACTS := Lib.hid hacts
  have HODD := Lib.hid hodd
  have HNEW := Lib.hid hnew
  clear hacts hodd hnew
  go_enter Try.func7, Try.ntmps7
  go_wp2_with fail
  refine HODD.out.mono ?_
  rintro e w1 ⟨rfl, rfl⟩
  go_wp2_with fail
  refine (HNEW.out _).mono ?_
  rintro e w2 ⟨z, lab, pv, rfl, q2, n2, f2⟩
  have Q2 := Lib.hid (QIn.start hN0 hN5 q2 n2 f2)
  clear q2 n2 f2 HODD HNEW
  go_wp2_with fail
  refine (awake10_any _).mono ?_
  rintro e w3 ⟨rfl, f3⟩
  have Q3 := Lib.hid (Q2.out.frNo f3)
  clear f3 Q2
  by_cases h30 : len ≤ 30
  case neg =>
    have b1 : decide ((30 : Int) < (len : Int)) = true := decide_eq_true (by omega)
    go_wp2_with fail
    refine (awake10_any _).mono ?_
    rintro e w4 ⟨rfl, f4⟩
    go_wp2_with fail
    go_ret
    exact ⟨ret_bool rfl, (Q3.out.fr.transNo f4).belowNo⟩
  have b1 : decide ((30 : Int) < (len : Int)) = false := decide_eq_false (by omega)
  have hpl := Lib.hid (h_play (c := cap) (s := 0) Q3.out HACTS.out.steps HACTS.out.count h30 QBd.new)
  clear Q3
  go_wp2_with fail
  refine hpl.out.mono ?_
  rintro e w5 ⟨rfl, q5, lab5, g5, i5, b5⟩
  have Q5 := Lib.hid i5
  have B5 := Lib.hid b5
  clear i5 b5 hpl HACTS b1
  have hpw := pow_wrap (N := N) (by omega)
  have hmd := Lib.hid fun W => mod_any a2 (wrap64 ((2 : Int) ^ N)) W hpw.1 hpw.2
  have hpos : 0 ≤ a2 % wrap64 ((2 : Int) ^ N) := Int.emod_nonneg _ (by omega)
  clear hpw
  have HPOS := Lib.hid hpos
  clear hpos
  go_wp2_with fail
  refine (hmd.out _).mono ?_
  rintro e w6 ⟨rfl, rfl⟩
  clear hmd
  generalize a2 % wrap64 ((2 : Int) ^ N) = up at *
  go_wp2_with fail
  go_loop [10, 11] (fun cv iv => ∃ i : Nat, i ≤ N ∧ iv = .int .i64 i ∧ cv = .int .i64 (bcU up i : Int)) (fun _ iv => N - (intOf iv).toNat)
  case atStart => exact ⟨0, Nat.zero_le _, rfl, rfl⟩
  case round =>
    obtain ⟨i, hi, rfl, rfl⟩ := hrel
    have hle := bcU_le up i
    by_cases hlt : i < N
    · have d1 : decide (i < N) = true := decide_eq_true hlt
      have d2 : decide ((i : Int) < (N : Int)) = true := decide_eq_true (by omega)
      have hb := bit_rem HPOS.out i
      have hbl := bI_le up i
      have hi64 : i < 64 := by omega
      have hsc := Lib.hid (bcU_succ up i)
      generalize bI up i = B at *
      go_wp2_with fail
      go_round
      case rel => exact ⟨i + 1, by omega, by go_num, by rw [hsc.out]; go_num⟩
      case measure => simp [intOf]; omega
    obtain rfl : i = N := by omega
    have d1 : decide (i < i) = false := by simp
    have d2 : decide ((i : Int) < (i : Int)) = false := by simp
    by_cases hmaj : 2 * bcU up i ≤ i
    · have d3 : decide (2 * bcU up i ≤ i) = true := decide_eq_true hmaj
      have d4 : decide (2 * (bcU up i : Int) ≤ (i : Int)) = true := decide_eq_true (by omega)
      go_wp2_with fail
      go_ret
      exact ⟨rfl, Q5.out.fr.belowNo⟩
    have d3 : decide (2 * bcU up i ≤ i) = false := decide_eq_false hmaj
    have d4 : decide (2 * (bcU up i : Int) ≤ (i : Int)) = false := decide_eq_false (by omega)
    have hU := Lib.hid (show MajU up i from by have : bcU up i = cntB (fun j => decide (bitU up j)) i := rfl; show i < 2 * cntB (fun j => decide (bitU up j)) i; omega)
    have hfl := Lib.hid (h_flush Q5.out 0 (by omega))
    clear hmaj
    generalize bcU up i = C at *
    go_wp2_with fail
    refine hfl.out.mono ?_
    rintro e w6 ⟨k6, q6, rfl, fl6, lab6, g6, i6⟩
    obtain ⟨net6, -, n6, -⟩ := flush_zero fl6 (by omega)
    have hbest := best_any i6.at_ up
    rw [i6.n_] at hbest
    have B6 := Lib.hid (QBd.flush fl6 B5.out Q5.out.at_.ok).1
    have hq6 := i6.n_
    clear fl6 Q5 B5 hfl n6
    have I6 := Lib.hid i6
    have NET6 := Lib.hid net6
    have HBEST := Lib.hid hbest
    have HQ6 := Lib.hid hq6
    clear i6 net6 hbest hq6
    go_wp2_with fail
    refine HBEST.out.mono ?_
    rintro e w7 ⟨out, term, size, rfl, hB, f7⟩
    obtain ⟨b, rfl, hbn, hbu, hbb⟩ := hB.final hU.out
    clear hB HBEST
    have F7 := Lib.hid f7
    have HBU := Lib.hid hbu
    have HBB := Lib.hid hbb
    clear f7 hbu hbb
    go_wp2_with fail
    go_loopw [13] (fun iv wr => ∃ (m : Nat) (q : Qs) (lab : Nat → Option Nat) (g : Gh), m ≤ 2 ∧ iv = .int .i64 m ∧ QIn w lab z pv q g i (204000000000 + m * 4000700000) wr ∧ Cam up b q6 m q) (fun iv _ => 2 - (intOf iv).toNat)
    case atStart => exact ⟨0, q6, lab6, g6, by omega, rfl, (I6.out.frNo F7.out).more (by omega), rfl⟩
    case round =>
      obtain ⟨m, q, lab, g, hm, rfl, hq, hcam⟩ := hrel
      by_cases hm2 : m < 2
      · have d5 : decide (m < 2) = true := decide_eq_true hm2
        have d6 : decide ((m : Int) < 2) = true := decide_eq_true (by omega)
        have hdo := Lib.hid (h_do hq 1 b 0 zeroE zeroE_ok (by omega))
        have HCAM := Lib.hid hcam
        clear hq hcam
        go_wp2_with fail
        refine hdo.out.mono ?_
        rintro e w8 ⟨rfl, lab8, g8, q8⟩
        have hfl := Lib.hid (h_flush q8 up (by omega))
        clear q8 hdo
        go_wp2_with fail
        refine hfl.out.mono ?_
        rintro e w9 ⟨k9, q9, rfl, fl9, lab9, g9, i9⟩
        have C9 := Lib.hid (show Cam up b q6 (m + 1) q9 from ⟨q, k9, HCAM.out, fl9⟩)
        have I9 := Lib.hid (i9.more (m := 204000000000 + (m + 1) * 4000700000) (by omega))
        clear hfl fl9 i9 HCAM
        go_wp2_with fail
        go_roundw
        case rel => exact ⟨m + 1, q9, lab9, g9, by omega, by go_num, I9.out, C9.out⟩
        case measure => simp [intOf]; omega
      obtain rfl : m = 2 := by omega
      have d5 : decide ((2 : Nat) < 2) = false := by decide
      have d6 : decide (((2 : Nat) : Int) < 2) = false := by decide
      obtain ⟨qp, ca, cb, fa, fb⟩ := hcam.two
      obtain ⟨hrole, hx, hnext⟩ := commits_plain (n3 := 0) I6.out.inv B6.out (by omega) NET6.out (by rw [HQ6.out]; exact hbn) HBU.out (by rw [HQ6.out]; exact HBB.out) (by rw [HQ6.out]; exact hU.out) zeroE_ok zeroE_ok (noteE_ok 777 (by decide) (by decide)) (noteE_shape 777 (by decide) (by decide)) fa fb
      have hbq : b < q.n := by rw [hq.n_]; exact hbn
      have hro := q_Role hq.at_ b hbq
      rw [hrole] at hro
      have hcm := q_Committed hq.at_
      have hnt := fun W => note10_any 777 W
      rw [show (777 : Int) % 1000 = 777 from by decide] at hnt
      have hdo := fun W (hf : Fr No wr W) => h_do (hq.frNo hf) 2 b 0 (noteE 777) (noteE_ok 777 (by decide) (by decide)) (by omega)
      rw [hx] at hdo
      generalize hL1 : q.done.length = L1 at *
      clear hcam fa fb hx hrole hq hL1
      have HRO := Lib.hid hro
      have HCM := Lib.hid hcm
      have HNT := Lib.hid hnt
      have HDO := Lib.hid hdo
      have HNEXT := Lib.hid hnext
      clear hro hcm hnt hdo hnext
      go_wp2_with fail
      refine HRO.out.mono ?_
      rintro e w8 ⟨rfl, rfl⟩
      go_wp2_with fail
      refine HCM.out.mono ?_
      rintro e w9 ⟨A9, c9, rfl, o9, f9⟩
      have hc9 := o9.cap
      clear o9
      have F9 := Lib.hid f9
      clear f9
      go_wp2_with fail
      refine (HNT.out _).mono ?_
      rintro e w10 ⟨rfl, f10⟩
      have F10 := Lib.hid (F9.out.transNo f10)
      clear f10 F9
      unfold noteE En.v
      go_wp2_with fail
      refine (HDO.out _ F10.out).mono ?_
      rintro e w11 ⟨rfl, lab11, g11, q11⟩
      have hfl := Lib.hid (h_flush q11 up (by omega))
      clear q11 HDO HCM HRO F10
      go_wp2_with fail
      refine hfl.out.mono ?_
      rintro e w12 ⟨k12, q12, rfl, fl12, lab12, g12, i12⟩
      obtain ⟨hgt, hlast⟩ := HNEXT.out q12 k12 fl12
      obtain ⟨D, hD⟩ := List.getLast?_eq_some_iff.1 hlast
      have hcm := q_Committed i12.at_
      rw [hD, List.length_append, List.length_singleton] at hcm
      rw [hD, List.length_append, List.length_singleton] at hgt
      have F12 := Lib.hid i12.fr
      clear fl12 hlast HNEXT hfl i12 hD
      have HCM := Lib.hid hcm
      clear hcm
      go_wp2_with fail
      refine HCM.out.mono ?_
      rintro e w13 ⟨A13, c13, rfl, o13, f13⟩
      have hca := o13.cap
      obtain ⟨g, off, x, rfl, hx, hcw⟩ := o13.rd.entAt (i := D.length) (by simp)
      obtain rfl : noteE 777 = x := by simpa using hx
      unfold noteE at hcw
      simp only at hcw
      have F13 := Lib.hid (F12.out.transNo f13)
      have hnt := HNT.out
      have hN := fun W => ent_eql (noteE 777) (noteE 777) W
      simp only [decide_true] at hN
      unfold noteE En.v at hnt hN
      have hG := fun (u v : Operand) (V : World) => ent_guard .eql u v #[.int .i64 16, .int .i64 0, .int .i64 (-1), .int .i64 (-1), .int .i64 (-1), .int .i64 0, .int .i64 0, .int .i64 0, .int .i64 777] #[.int .i64 16, .int .i64 0, .int .i64 (-1), .int .i64 (-1), .int .i64 (-1), .int .i64 0, .int .i64 0, .int .i64 0, .int .i64 777] V
      generalize D.length = M at *
      unfold maxLen at hca
      have hm1 : decide (L1 < M + 1) = true := decide_eq_true (by omega)
      have hm2 : decide ((L1 : Int) < ((M + 1 : Nat) : Int)) = true := decide_eq_true (by omega)
      have hm3 : decide ((L1 : Int) < (M : Int) + 1) = true := decide_eq_true (by omega)
      have hw1 : IntKind.i64.wrap (((M + 1 : Nat) : Int) - 1) = (M : Int) := by rw [IntWalk.i64_in _ (by omega)]; omega
      have hw2 : IntKind.i64.wrap ((M : Int) + 1 - 1) = (M : Int) := by rw [IntWalk.i64_in _ (by omega)]; omega
      have hw3 : IntKind.i64.wrap (M : Int) = (M : Int) := IntWalk.i64_in _ (by omega)
      have hx1 : (0 : Int) ≤ (M : Int) := by omega
      have hx2 : (M : Int) < ((M + 1 : Nat) : Int) := by omega
      have hx3 : (M : Int) < (M : Int) + 1 := by omega
      have hx4 : M < M + 1 := by omega
      have hd := hcw w13.drew (Fr.refl _ _).drew
      clear o13 HCM F12 HNT f13 hx hgt
      have HCW := Lib.hid hcw
      have HNT := Lib.hid hnt
      clear hcw hnt
      go_wp2_with fail
      go_region_held3 (fun W => W.cell? ⟨g, off + M * 9, none⟩ = some (.int .i64 16) ∧ W.cell? ⟨g, off + M * 9 + 1, none⟩ = some (.int .i64 0) ∧ W.cell? ⟨g, off + M * 9 + 2, none⟩ = some (.int .i64 (-1)) ∧ W.cell? ⟨g, off + M * 9 + 3, none⟩ = some (.int .i64 (-1)) ∧ W.cell? ⟨g, off + M * 9 + 4, none⟩ = some (.int .i64 (-1)) ∧ W.cell? ⟨g, off + M * 9 + 5, none⟩ = some (.int .i64 0) ∧ W.cell? ⟨g, off + M * 9 + 6, none⟩ = some (.int .i64 0) ∧ W.cell? ⟨g, off + M * 9 + 7, none⟩ = some (.int .i64 0) ∧ W.cell? ⟨g, off + M * 9 + 8, none⟩ = some (.int .i64 777)) (first | exact hd | exact HCW.out _ (by repeat (first | assumption | exact Fr.refl _ _ | refine Fr.alloc ?_ _ | refine Fr.drew ?_ | refine Fr.drewN ?_ _))) (first
        | (go_at_call 25; refine (HNT.out _).mono ?_; rintro e v2 ⟨rfl, f2'⟩; have F2 : Fr No w13 v2 := Fr.transNo (by repeat (first | assumption | exact Fr.refl _ _ | refine Fr.alloc ?_ _ | refine Fr.drew ?_ | refine Fr.drewN ?_ _)) f2'; clear f2'))
      all_goals
        go_wp2_with fail
        go_ret
        exact ⟨rfl, (F13.out.transNo (by repeat (first | assumption | exact Fr.refl _ _ | refine Fr.alloc ?_ _ | refine Fr.drew ?_ | refine Fr.drewN ?_ _))).belowNo⟩
end Go.Proofs.Ytokblidfekbeeaa
