/-
  Several texts in one: QuE, QuN, QuP, QuS, QuT, QuV, QuX, QuY, QuU, QuW.
-/
import Derived.Test.YtokblidfekbeeaaZ26
import Derived.Test.YtokblidfekbeeaaZ27
import Derived.Deep.CutBlock
import Derived.Test.YtokblidfekbeeaaZ22
import Derived.StillTailTactics
import Derived.Deep.RegionHeld3
/- The program's quorum: its readers. -/
namespace Go.Proofs.Ytokblidfekbeeaa
open Go.ChangeShapes Go.WideShapes Go.ChangeAt Go.RowKit
set_option linter.unusedVariables false

section
variable {w w' : World} {lab lab' : Nat → Option Nat} {z n m : Nat} {pv : Nat → Nat} {q : Qs} {F : Nat → Prop}
/-- The row of the replicas. -/
theorem QAt.row (h : QAt w lab z pv q n) : ∃ br cr, q.n ≤ cr ∧ cr ≤ maxLen ∧ ∀ W, Fr No w W → W.cell? ⟨z, 0, none⟩ = some (.slice (some ⟨br, 0, none⟩) q.n cr) ∧ ∀ i, i < q.n → W.cell? ⟨br, i, none⟩ = some (.pointer (some ⟨pv i, 0, none⟩)) := by
  obtain ⟨Ar, cr, NV, DV, vs, h1, h2, h3, h4⟩ := h.mem
  have hp := h.ok.pos
  have hc := h2.cap
  obtain ⟨br, rfl, hbl, -, hb⟩ := own_head h2 hp
  refine ⟨br, cr, hc.1, hc.2, fun W hf => ⟨(h1.fr hf (fun h => h)).cell 0, fun i hi => ?_⟩⟩
  have := (hb i (by simpa using hi)).1
  rw [hf.cell (p := ⟨br, i, none⟩) hbl (fun h => h), this]
  simp
set_option maxHeartbeats 1000000 in
theorem q_has (h : QAt w lab z pv q n) (i : Int) : Calls Try.prog 32 #[.pointer (some ⟨z, 0, none⟩), .int .i64 i] w fun e w' => e = .returned (.bool (decide (0 ≤ i ∧ i < q.n))) ∧ w = w' := by
  obtain ⟨br, cr, hnc, hcm, hr⟩ := h.row
  have h5 := h.ok.five
  obtain ⟨c0, -⟩ := hr w (Fr.refl _ _)
  generalize q.n = N at *
  clear h hr
  unfold maxLen at hcm
  by_cases h0 : 0 ≤ i
  · by_cases h1 : i < N
    · have t2 : decide (i < (N : Int)) = true := by simpa using h1
      have hy : decide (0 ≤ i ∧ i < (N : Int)) = true := by simp; omega
      rw [hy]
      clear hy
      go_enter Try.func32, Try.ntmps32
      go_wp2_with fail
      go_ret
      exact ⟨rfl, rfl⟩
    · have t2 : decide (i < (N : Int)) = false := by simpa using h1
      have hy : decide (0 ≤ i ∧ i < (N : Int)) = false := by simp; omega
      rw [hy]
      clear hy
      go_enter Try.func32, Try.ntmps32
      go_wp2_with fail
      go_ret
      exact ⟨rfl, rfl⟩
  · have t1 : decide (0 ≤ i) = false := by simpa using h0
    have hy : decide (0 ≤ i ∧ i < (N : Int)) = false := by simp; omega
    rw [hy]
    clear hy
    go_enter Try.func32, Try.ntmps32
    go_wp2_with fail
    go_ret
    exact ⟨rfl, rfl⟩
set_option maxHeartbeats 1000000 in
theorem q_Role (h : QAt w lab z pv q n) (i : Nat) (hi : i < q.n) : Calls Try.prog 19 #[.pointer (some ⟨z, 0, none⟩), .int .i64 (i : Int)] w fun e w' => e = .returned (.int .i64 ((q.rs i).role)) ∧ w = w' := by
  have hh := q_has h (i : Int)
  rw [show decide (0 ≤ (i : Int) ∧ (i : Int) < (q.n : Int)) = true from by simp; omega] at hh
  have hc := p_role (h.reps i hi)
  obtain ⟨br, cr, hnc, hcm, hr⟩ := h.row
  have h5 := h.ok.five
  obtain ⟨c0, cr0⟩ := hr w (Fr.refl _ _)
  have ci := cr0 i hi
  have hi2 : (i : Int) < (q.n : Int) := by omega
  unfold maxLen at hcm
  generalize (q.rs i).role = X at *
  clear h hr cr0
  have HH := Lib.hid hh
  have HC := Lib.hid hc
  clear hh hc
  go_enter Try.func19, Try.ntmps19
  go_wp2_with fail
  refine HH.out.mono ?_
  rintro e w1 ⟨rfl, rfl⟩
  go_wp2_with fail
  refine HC.out.mono ?_
  rintro e w1 ⟨rfl, rfl⟩
  go_wp2_with fail
  go_ret
  exact ⟨rfl, rfl⟩
set_option maxHeartbeats 1000000 in
theorem q_Term (h : QAt w lab z pv q n) (i : Nat) (hi : i < q.n) : Calls Try.prog 20 #[.pointer (some ⟨z, 0, none⟩), .int .i64 (i : Int)] w fun e w' => e = .returned (.int .i64 ((q.rs i).js.term)) ∧ w = w' := by
  have hh := q_has h (i : Int)
  rw [show decide (0 ≤ (i : Int) ∧ (i : Int) < (q.n : Int)) = true from by simp; omega] at hh
  have hc := p_term (h.reps i hi).rj
  obtain ⟨br, cr, hnc, hcm, hr⟩ := h.row
  have h5 := h.ok.five
  obtain ⟨c0, cr0⟩ := hr w (Fr.refl _ _)
  have ci := cr0 i hi
  have hi2 : (i : Int) < (q.n : Int) := by omega
  unfold maxLen at hcm
  generalize (q.rs i).js.term = X at *
  clear h hr cr0
  have HH := Lib.hid hh
  have HC := Lib.hid hc
  clear hh hc
  go_enter Try.func20, Try.ntmps20
  go_wp2_with fail
  refine HH.out.mono ?_
  rintro e w1 ⟨rfl, rfl⟩
  go_wp2_with fail
  refine HC.out.mono ?_
  rintro e w1 ⟨rfl, rfl⟩
  go_wp2_with fail
  go_ret
  exact ⟨rfl, rfl⟩
set_option maxHeartbeats 1000000 in
theorem q_Commit (h : QAt w lab z pv q n) (i : Nat) (hi : i < q.n) : Calls Try.prog 18 #[.pointer (some ⟨z, 0, none⟩), .int .i64 (i : Int)] w fun e w' => e = .returned (.int .i64 (((q.rs i).commit : Int))) ∧ w = w' := by
  have hh := q_has h (i : Int)
  rw [show decide (0 ≤ (i : Int) ∧ (i : Int) < (q.n : Int)) = true from by simp; omega] at hh
  have hc := p_commit (h.reps i hi)
  obtain ⟨br, cr, hnc, hcm, hr⟩ := h.row
  have h5 := h.ok.five
  obtain ⟨c0, cr0⟩ := hr w (Fr.refl _ _)
  have ci := cr0 i hi
  have hi2 : (i : Int) < (q.n : Int) := by omega
  unfold maxLen at hcm
  generalize ((q.rs i).commit : Int) = X at *
  clear h hr cr0
  have HH := Lib.hid hh
  have HC := Lib.hid hc
  clear hh hc
  go_enter Try.func18, Try.ntmps18
  go_wp2_with fail
  refine HH.out.mono ?_
  rintro e w1 ⟨rfl, rfl⟩
  go_wp2_with fail
  refine HC.out.mono ?_
  rintro e w1 ⟨rfl, rfl⟩
  go_wp2_with fail
  go_ret
  exact ⟨rfl, rfl⟩
set_option maxHeartbeats 1000000 in
theorem q_Log (h : QAt w lab z pv q n) (i : Nat) (hi : i < q.n) : Calls Try.prog 15 #[.pointer (some ⟨z, 0, none⟩), .int .i64 (i : Int)] w (FromTo w (q.rs i).js.log) := by
  have hh := q_has h (i : Int)
  rw [show decide (0 ≤ (i : Int) ∧ (i : Int) < (q.n : Int)) = true from by simp; omega] at hh
  have hc := p_log (h.reps i hi).rj (h.reps i hi).ok.log.few
  obtain ⟨br, cr, hnc, hcm, hr⟩ := h.row
  have h5 := h.ok.five
  obtain ⟨c0, cr0⟩ := hr w (Fr.refl _ _)
  have ci := cr0 i hi
  have hi2 : (i : Int) < (q.n : Int) := by omega
  unfold maxLen at hcm
  generalize (q.rs i).js.log = X at *
  clear h hr cr0
  have HH := Lib.hid hh
  have HC := Lib.hid hc
  clear hh hc
  go_enter Try.func15, Try.ntmps15
  go_wp2_with fail
  refine HH.out.mono ?_
  rintro e w1 ⟨rfl, rfl⟩
  go_wp2_with fail
  refine HC.out.mono ?_
  rintro e w1 m1
  have M := Lib.hid m1
  obtain ⟨A, c, rfl, -⟩ := m1
  go_wp2_with fail
  go_ret
  exact M.out
end
end Go.Proofs.Ytokblidfekbeeaa
/- The program's quorum: what was committed is taken over. -/
namespace Go.Proofs.Ytokblidfekbeeaa
open Go.ChangeShapes Go.WideShapes Go.ChangeAt Go.RowKit
set_option linter.unusedVariables false

abbrev TEq : TypeId := 43
theorem enq_info : (Try.prog.info? TEq).map (fun i => (i.zero, i.size, i.bytes)) = some (some (.agg #[.int .i64 0, .int .i64 0, .int .i64 0, .int .i64 0, .int .i64 0, .int .i64 0, .int .i64 0, .int .i64 0, .int .i64 0]), 9, 72) := by kernel_rfl
theorem new_cells (w : World) (cs : List Value) (t : TypeId) : ∀ (j : Nat) (u : Value), cs[j]? = some u → (w.alloc (.cells cs.toArray t)).cell? ((⟨w.heap.size, 0, none⟩ : Addr).add j) = some u := by
  intro j u hu
  have ea : (⟨w.heap.size, 0, none⟩ : Addr).add j = ⟨w.heap.size, 0 + j, none⟩ := by unfold Addr.add; split <;> simp_all
  rw [ea, Nat.zero_add, (Blk.new w t cs.toArray).cell]
  simpa using hu
section
variable {w w' : World} {lab lab' : Nat → Option Nat} {z n m : Nat} {pv : Nat → Nat} {q : Qs} {F : Nat → Prop}
/-- Another list of what was committed. -/
theorem QAt.setDone {Ar : Option Addr} {cr : Nat} {NV DV DV' : Value} {done' : List En} {vs : List Value} (h : QAt w lab z pv q n) (h1 : Blk w z TQuo #[.slice Ar q.n cr, NV, DV])
    (h2 : Own w (part lab 1) TPR (.slice Ar q.n cr) ((List.range q.n).map fun i => .pointer (some ⟨pv i, 0, none⟩))) (h3 : MsIn w (part lab 2) (part lab 3) NV q.net vs)
    (hf : Fr (fun b => lab b = some 0) w w') (ho : ∀ b, b < w.heap.size → lab' b = lab b) (hn : ∀ b k, w.heap.size ≤ b → lab' b = some k → k = 4 ∧ b < w'.heap.size)
    (hz : Blk w' z TQuo #[.slice Ar q.n cr, NV, DV']) (hm : OwnN w' (part lab' 4) TEq 9 DV' done'.length (entV done')) (hok : QsOk { q with done := done' }) : QAt w' lab' z pv { q with done := done' } n := by
  have hd : ∀ k, k ≠ 0 → ∀ b, part lab k b → ¬ lab b = some 0 := fun k k0 b hb hh => part_ne k0 b hb hh
  have hold : ∀ k b, lab b = some k → part lab' k b := fun k b hb => by
    show lab' b = some k
    rw [ho b (h.lt b k hb)]; exact hb
  have hlt : ∀ b k, lab' b = some k → b < w'.heap.size := fun b k hb => by
    rcases Nat.lt_or_ge b w.heap.size with hl | hl
    · exact Nat.lt_of_lt_of_le hl hf.size
    · exact (hn b k hl hb).2
  refine ⟨hlt, ⟨Ar, cr, NV, DV', vs, hz, (h2.fr hf (hd 1 (by omega))).mono (hold 1), (h3.fr hf (hd 2 (by omega)) (hd 3 (by omega))).same (hold 2) (hold 3) (part_ne (by omega)) (fun b hb => hlt b 2 hb) (fun b hb => hlt b 3 hb), hm⟩, hold 0 z h.z0, fun i hi => ?_, hok⟩
  exact ((h.reps i hi).fr hf (hd (10 + i) (by omega))).mono (hold (10 + i)) (fun b hb => hlt b _ hb)
def NoteAt (w : World) (lab : Nat → Option Nat) (z : Nat) (pv : Nat → Nat) (q : Qs) (n : Nat) (k : Nat) (W : World) : Prop :=
  ∃ lab', QAt W lab' z pv { q with done := noteG q.rs q.done k } n ∧ (∀ b, b < w.heap.size → lab' b = lab b) ∧ (∀ b j, w.heap.size ≤ b → lab' b = some j → j = 4) ∧ Fr (fun b => lab b = some 0) w W
/-- A new list was put in place. -/
theorem NoteAt.next {lab1 : Nat → Option Nat} {wr W : World} {k g c : Nat} {Q : Qs} {Ar : Option Addr} {cr : Nat} {NV DV : Value} {vs : List Value} {done' : List En}
    (hl1 : ∀ b, b < w.heap.size → lab1 b = lab b) (hl2 : ∀ b j, w.heap.size ≤ b → lab1 b = some j → j = 4) (hfr : Fr (fun b => lab b = some 0) w wr)
    (h : QAt wr lab1 z pv Q n) (h1 : Blk wr z TQuo #[.slice Ar Q.n cr, NV, DV])
    (h2 : Own wr (part lab1 1) TPR (.slice Ar Q.n cr) ((List.range Q.n).map fun i => .pointer (some ⟨pv i, 0, none⟩))) (h3 : MsIn wr (part lab1 2) (part lab1 3) NV Q.net vs)
    (hg : wr.heap.size ≤ g) (hf : Fr No wr W) (hm : W.ownsRow 0 TEq 9 (.slice (some ⟨g, 0, none⟩) done'.length c) done'.length (entV done')) (hd : done'.length ≤ 4096)
    (hnext : { Q with done := done' } = { q with done := noteG q.rs q.done (k + 1) }) : NoteAt w lab z pv q n (k + 1) (W.setCell ⟨z, 2, none⟩ (.slice (some ⟨g, 0, none⟩) done'.length c)) := by
  have hs1 := hfr.size
  have hs2 := hf.size
  have hzl := h.lt z 0 h.z0
  have hgl : g < W.heap.size := (hm.lt g rfl).2
  obtain ⟨lab', hlab⟩ : ∃ lab' : Nat → Option Nat, lab' = fun b => if b < wr.heap.size then lab1 b else if b = g then some 4 else none := ⟨_, rfl⟩
  have ho : ∀ b, b < wr.heap.size → lab' b = lab1 b := fun b hb => by rw [hlab]; exact if_pos hb
  have hn : ∀ b k, wr.heap.size ≤ b → lab' b = some k → k = 4 ∧ b = g := fun b k hb hk => by
    rw [hlab] at hk
    simp only at hk
    rw [if_neg (by omega)] at hk
    split at hk
    · rename_i hh
      injection hk with hk
      exact ⟨hk.symm, hh⟩
    · cases hk
  have hg4 : lab' g = some 4 := by rw [hlab]; simp only; rw [if_neg (by omega), if_pos trivial]
  have hfz : Fr (fun b => b = z) W (W.setCell ⟨z, 2, none⟩ (.slice (some ⟨g, 0, none⟩) done'.length c)) := fr_set W ⟨z, 2, none⟩ _
  have hf2 : Fr (fun b => lab1 b = some 0) wr (W.setCell ⟨z, 2, none⟩ (.slice (some ⟨g, 0, none⟩) done'.length c)) := (hf.mono (G := fun b => lab1 b = some 0) fun _ hi => hi.elim).setCell (p := ⟨z, 2, none⟩) (.inl h.z0) _
  have hz1 : Blk W z TQuo #[.slice Ar Q.n cr, NV, DV] := h1.fr hf (fun h => h)
  have hown : OwnN W (part lab' 4) TEq 9 (.slice (some ⟨g, 0, none⟩) done'.length c) done'.length (entV done') := ⟨hm, fun g' hg' => by
    simp only [Value.ownBlock, Option.some.injEq] at hg'
    subst hg'
    exact hg4⟩
  have hq := h.setDone (lab' := lab') h1 h2 h3 hf2 ho (fun b k hb hk => ⟨(hn b k hb hk).1, by rw [(hn b k hb hk).2]; exact Nat.lt_of_lt_of_le hgl hfz.size⟩) ((hz1.set_ 2 _).conv rfl)
    (hown.fr' hfz fun g' hg' e => by
      simp only [Value.ownBlock, Option.some.injEq] at hg'
      omega) ⟨h.ok.pos, h.ok.five, h.ok.each, h.ok.net, h.ok.msgs, hd⟩
  rw [hnext] at hq
  refine ⟨lab', hq, fun b hb => (ho b (by omega)).trans (hl1 b hb), fun b j hb hj => ?_, hfr.trans hf2 fun b hb => ?_⟩
  · rcases Nat.lt_or_ge b wr.heap.size with hl | hl
    · rw [ho b hl] at hj
      exact hl2 b j hb hj
    · exact (hn b j hl hj).1
  · rcases Nat.lt_or_ge b w.heap.size with hl | hl
    · rw [hl1 b hl] at hb
      exact .inl hb
    · exact .inr hl
set_option maxRecDepth 100000 in
set_option maxHeartbeats 8000000 in
theorem q_note (h : QAt w lab z pv q n) : Calls Try.prog 42 #[.pointer (some ⟨z, 0, none⟩)] w fun e w' => e = .returned (.tuple #[]) ∧ NoteAt w lab z pv q n q.n w' := by
  obtain ⟨i1, hi1, hy0, hy1, hy2⟩ := info_parts enq_info
  have hstart : NoteAt w lab z pv q n 0 w := ⟨lab, h, fun _ _ => rfl, fun b j hb hj => absurd (h.lt b j hj) (by omega), Fr.refl _ _⟩
  have h5 := h.ok.five
  obtain ⟨br, cr0, hnc, hcm, hrow⟩ := h.row
  unfold maxLen at hcm
  have c0 := (hrow w (Fr.refl _ _)).1
  have hrowk : ∀ W, Fr (fun b => lab b = some 0) w W → ∀ i, i < q.n → W.cell? ⟨br, i, none⟩ = some (.pointer (some ⟨pv i, 0, none⟩)) := by
    obtain ⟨Ar, cr, NV, DV, vs, h1, h2, -⟩ := h.mem
    obtain ⟨br', rfl, hbl, hbl1, hb⟩ := own_head h2 h.ok.pos
    have e1 := c0
    rw [h1.cell 0] at e1
    have e2 : some (Value.slice (some (⟨br', 0, none⟩ : Addr)) q.n cr) = some (Value.slice (some (⟨br, 0, none⟩ : Addr)) q.n cr0) := e1
    simp only [Option.some.injEq, Value.slice.injEq, Addr.mk.injEq] at e2
    obtain rfl := e2.1.1
    intro W hf i hi
    rw [hf.cell (p := ⟨br', i, none⟩) hbl (fun hh => part_ne (show (1 : Nat) ≠ 0 by omega) br' hbl1 hh), (hb i (by simpa using hi)).1]
    simp
  clear h hrow
  have HSTART := Lib.hid hstart
  have HROWK := Lib.hid hrowk
  clear hstart hrowk
  go_enter Try.func42, Try.ntmps42
  go_wp2_with fail
  go_loopw [12] (fun i wr => ∃ k : Nat, k ≤ q.n ∧ i = .int .i64 k ∧ NoteAt w lab z pv q n k wr) (fun i _ => q.n - (intOf i).toNat)
  case atStart => exact ⟨0, Nat.zero_le _, rfl, HSTART.out⟩
  case round =>
    obtain ⟨k, hk, rfl, lab1, hq, hl1, hl2, hfr⟩ := hrel
    by_cases hlt : k < q.n
    · have b1 : decide (k < q.n) = true := by simpa using hlt
      have b2 : decide ((k : Int) < (q.n : Int)) = true := by simp; omega
      have hlt2 : (k : Int) < (q.n : Int) := by omega
      have rk := HROWK.out wr hfr k hlt
      have hrep := hq.reps k hlt
      obtain ⟨Q, hQ⟩ : ∃ Q : Qs, Q = { q with done := noteG q.rs q.done k } := ⟨_, rfl⟩
      rw [← hQ] at hq hrep
      have hQn : Q.n = q.n := by rw [hQ]
      have hQr : Q.rs k = q.rs k := by rw [hQ]
      have hQd : Q.done = noteG q.rs q.done k := by rw [hQ]
      obtain ⟨Ar, cr, NV, DV, ns, h1, h2, h3, h4⟩ := hq.mem
      obtain ⟨Ad, cd, rfl, -⟩ := h4.form
      have hd4 := hq.ok.done
      have z2 : wr.cell? ⟨z, 2, none⟩ = some (.slice Ad Q.done.length cd) := h1.cell 2
      have hzwr := hq.lt z 0 hq.z0
      have hrok := hrep.ok
      rw [hQr] at hrep hrok
      have hcom := fun W (hf : Fr No wr W) => p_commit (hrep.frNo hf)
      have hlog := fun W (hf : Fr No wr W) => p_log (hrep.frNo hf).rj hrok.log.few
      have hcl := hrok.com
      have hfew := hrok.log.few
      have hnx : ({ q with done := noteG q.rs q.done (k + 1) } : Qs) = { Q with done := if (q.rs k).commit ≤ Q.done.length then Q.done else (((q.rs k).js.log.take (q.rs k).commit).map (·.e)) } := by
        rw [hQd, hQ]
        rfl
      generalize hLL : (q.rs k).js.log = LL at *
      generalize hCC : (q.rs k).commit = C at *
      by_cases hle : C ≤ Q.done.length
      · have t1 : decide (C ≤ Q.done.length) = true := by simpa using hle
        have t2 : decide ((C : Int) ≤ (Q.done.length : Int)) = true := by simp; omega
        rw [if_pos hle] at hnx
        have T9 := Lib.hid (show ∀ j, NoteAt w lab z pv q n (k + 1) (wr.drewN j) from fun j => ⟨lab1, by rw [hnx]; exact hq.frNo ((Fr.refl No wr).drewN j), hl1, hl2, hfr.drewN j⟩)
        clear hq h1 h2 h3 h4 hl1 hl2 hfr hrep hrok hlog hQ hnx hLL hCC hQn hQr hQd
        have HCOM := Lib.hid hcom
        clear hcom
        go_wp2_with fail
        go_quiet ((go_at_call 36; exact quiet_same (HCOM.out _ ((Fr.refl No wr).drewN _))))
        go_wp2_with fail
        go_roundw
        case rel => exact ⟨k + 1, by omega, by go_num, T9.out _⟩
        case measure => simp [intOf]; omega
      · have t1 : decide (C ≤ Q.done.length) = false := by simpa using hle
        have t2 : decide ((C : Int) ≤ (Q.done.length : Int)) = false := by simp; omega
        rw [if_neg hle] at hnx
        have hnext := fun g c W (hg : wr.heap.size ≤ g) (hf : Fr No wr W) hm => NoteAt.next (w := w) (lab := lab) (q := q) (k := k) (g := g) (c := c) (W := W) (done' := (LL.take C).map (·.e)) hl1 hl2 hfr hq h1 h2 h3 hg hf hm (by rw [List.length_map, List.length_take]; omega) hnx.symm
        have hzf := fun W (hf : Fr No wr W) => (⟨(h1.fr hf (fun h => h)).cell 2, (h1.fr hf (fun h => h)).frozen 2⟩ : W.cell? ⟨z, 2, none⟩ = some (.slice Ad Q.done.length cd) ∧ W.frozen? ⟨z, 2, none⟩ = false)
        have hlC : ((LL.take C).map (·.e)).length = C := by rw [List.length_map, List.length_take]; omega
        rw [hlC] at hnext
        clear hq h1 h2 h3 h4 hl1 hl2 hfr hrep hrok hQ hnx hLL hCC hQn hQr hQd
        have HCOM := Lib.hid hcom
        have HLOG := Lib.hid hlog
        have HNEXT := Lib.hid hnext
        have HZF := Lib.hid hzf
        have HLC := Lib.hid hlC
        clear hcom hlog hnext hzf hlC
        go_wp2_with fail
        go_quiet ((go_at_call 36; exact quiet_same (HCOM.out _ ((Fr.refl No wr).drewN _))))
        have K1 := Lib.hid ((Fr.refl No wr).drewN nq)
        generalize wr.drewN nq = w1 at *
        clear z2 rk
        go_wp2_with fail
        refine (HCOM.out _ K1.out).mono ?_
        rintro e w2 ⟨rfl, rfl⟩
        go_wp2_with (refine wpList_make_own _ rfl _ _ 39 rfl 0 TEq i1 _ 9 Try.underlying39 hi1 hy0 hy1 .i64 .i64 (C : Int) C rfl rfl rfl (by rw [hy2]; omega) (by unfold maxLen; omega) (Nat.zero_le _) ?_)
        intro w3 hown3 hgrow3
        obtain ⟨g, hg⟩ : ∃ g, g = w1.heap.size := ⟨_, rfl⟩
        have hg0 : wr.heap.size ≤ g := by rw [hg]; exact K1.out.size
        have hg3 : g < w3.heap.size := by rw [hg]; exact (hown3.lt w1.heap.size rfl).2
        have o3 : OwnN w3 (fun b => b = g) TEq 9 (.slice (some ⟨g, 0, none⟩) 0 C) 0 [] := ⟨by rw [hg]; exact hown3, fun g' hg' => by
          simp only [Value.ownBlock, Option.some.injEq] at hg'
          omega⟩
        have f3 : Fr No wr w3 := K1.out.grown hgrow3 (fun _ h => by cases h)
        rw [← hg]
        clear hown3 hgrow3 hg K1
        have O3 := Lib.hid o3
        have F3 := Lib.hid f3
        clear o3 f3
        go_wp2_with fail
        refine (HLOG.out _ F3.out).mono ?_
        rintro e w4 ⟨A4, c4, rfl, o4, f4⟩
        have ho4 := o4.cap
        obtain ⟨b4, rfl, hb4, hF4, -⟩ := o4.head (by omega)
        have f5 := F3.out.transNo f4
        have o5 := O3.out.frNo f4
        have hcells := fun (W : World) (hf : Fr (fun b => b = g) w4 W) (i : Nat) (hi : i < LL.length) => (Ent.of_own (G := fun b => w3.heap.size ≤ b) (o4.fr' hf fun g' hg' e => by
          simp only [Value.ownBlock, Option.some.injEq] at hg'
          omega)).at_ hi
        have hcl2 : (C : Int) ≤ (c4 : Int) := by omega
        clear o4 f4 F3 O3
        have HCELLS := Lib.hid hcells
        have F5 := Lib.hid f5
        have O5 := Lib.hid o5
        clear hcells f5 o5
        go_wp2_with fail
        refine (HCOM.out _ F5.out).mono ?_
        rintro e w5 ⟨rfl, rfl⟩
        go_wp2_with fail
        go_loopw [4, 33] (fun l i wr' => ∃ j : Nat, j ≤ C ∧ i = .int .i64 j ∧ l = .slice (some ⟨g, 0, none⟩) j C ∧ OwnN wr' (fun b => b = g) TEq 9 l j (entV ((LL.take j).map (·.e))) ∧ Fr (fun b => b = g) w4 wr') (fun _ i _ => C - (intOf i).toNat)
        case atStart => exact ⟨0, Nat.zero_le _, rfl, rfl, by simpa [entV] using O5.out, Fr.refl _ _⟩
        case round =>
          obtain ⟨j, hj, rfl, rfl, oj, fj⟩ := hrel
          by_cases hlj : j < C
          · have hlj2 : (j : Int) < (C : Int) := by omega
            obtain ⟨b5, o5, x, e5, hx, hcs⟩ := HCELLS.out _ fj j (by omega)
            simp only [Option.some.injEq, Addr.mk.injEq] at e5
            obtain ⟨rfl, rfl, -⟩ := e5
            obtain ⟨d0, d1, d2, d3, d4, d5, d6, d7, d8, d9⟩ := hcs _ (Fr.refl _ _)
            have hsn : entV ((LL.take (j + 1)).map (·.e)) = entV ((LL.take j).map (·.e)) ++ x.e.cells := by
              rw [List.take_add_one, hx, Option.toList_some, List.map_append, List.map_singleton, entV_snoc]
            obtain ⟨t, ⟨kd, tick, te, ce, ot, ep, fr, un, nn⟩⟩ := x
            change entV _ = entV _ ++ En.cells ⟨kd, tick, te, ce, ot, ep, fr, un, nn⟩ at hsn
            simp only [Nat.zero_add] at d0 d1 d2 d3 d4 d5 d6 d7 d8 d9
            obtain ⟨W1, hW1⟩ : ∃ W1, W1 = World.alloc wr (.cells #[.int .i64 t, .int .i64 kd, .int .i64 tick, .int .i64 te, .int .i64 ce, .int .i64 ot, .int .i64 ep, .int .i64 fr, .int .i64 un, .int .i64 nn] TLg) := ⟨_, rfl⟩
            have hf1 : Fr No wr W1 := by rw [hW1]; exact fr_alloc _ _
            obtain ⟨gx, hgx⟩ : ∃ gx, gx = wr.heap.size := ⟨_, rfl⟩
            have hb1 : Blk W1 gx TLg (Lg.cells ⟨t, ⟨kd, tick, te, ce, ot, ep, fr, un, nn⟩⟩).toArray := by rw [hgx, hW1]; exact Blk.new _ _ _
            obtain ⟨c0', c1, c2, c3, c4', c5, c6, c7, c8, c9⟩ := lg_cells hb1
            simp only at c1 c2 c3 c4' c5 c6 c7 c8 c9
            have o1 := oj.frNo hf1
            have f1 := fj.trans hf1 fun _ h => h.elim
            have hxg := hb1.lt
            clear hx hcs hb1 hf1 oj fj
            have HSN := Lib.hid hsn
            have O1 := Lib.hid o1
            have F1 := Lib.hid f1
            have HW1 := Lib.hid hW1
            have HGX := Lib.hid hgx
            clear hsn o1 f1 hW1 hgx
            go_upto_region 8 with fail
            rw [← HW1.out, ← HGX.out]
            clear d0 d1 d2 d3 d4 d5 d6 d7 d8 d9
            clear HW1 HGX
            go_wp2_with (at_builtin; refine wpList_append_fits _ rfl (.tmp 37) (.tmp 40) 39 rfl 0 TEq i1 9 Try.underlying39 hi1 hy1 g j C _ rfl (O1.out.frNo (fr_alloc _ _)).1 ⟨W1.heap.size, 0, none⟩ 1 1 (En.cells ⟨kd, tick, te, ce, ot, ep, fr, un, nn⟩) rfl rfl (new_cells _ _ _) (ent_one _) (by omega) ?_)
            intro w6 hown6 hgrow6
            rw [← List.map_take, ← HSN.out] at hown6
            have T9 := Lib.hid (show OwnN w6 (fun b => b = g) TEq 9 (.slice (some ⟨g, 0, none⟩) (j + 1) C) (j + 1) (entV ((LL.take (j + 1)).map (·.e))) ∧ Fr (fun b => b = g) w4 w6 from ⟨⟨hown6, fun g' hg' => by
              simp only [Value.ownBlock, Option.some.injEq] at hg'
              exact hg'.symm⟩, (F1.out.alloc _).grown hgrow6 fun k' hk' => by
              simp only [Option.some.injEq] at hk'
              exact .inl hk'.symm⟩)
            clear hown6 hgrow6 HSN O1 F1
            go_wp2_with fail
            go_roundw
            case rel => exact ⟨j + 1, by omega, by go_num, rfl, T9.out.1, T9.out.2⟩
            case measure => simp [intOf]; omega
          · obtain rfl : j = C := by omega
            have F9 := F5.out.transNew fj fun _ h => by omega
            obtain ⟨z9, y9⟩ := HZF.out _ F9
            have T9 := Lib.hid (HNEXT.out g j _ hg0 F9 oj.1)
            have hzl := F9.size
            clear F9 fj oj HZF HNEXT HCELLS F5 O5
            go_wp2_with fail
            refine ⟨⟨k + 1, by omega, by go_num, T9.out⟩, ?_⟩
            simp [intOf]
            omega
    · obtain rfl : k = q.n := by omega
      have b1 : decide (q.n < q.n) = false := by simp
      have T9 := Lib.hid (show NoteAt w lab z pv q n q.n wr from ⟨lab1, hq, hl1, hl2, hfr⟩)
      clear hq hl1 hl2 hfr
      go_wp2_with fail
      go_end0
      exact ⟨rfl, T9.out⟩
end
end Go.Proofs.Ytokblidfekbeeaa
/- The program's quorum: which acts are permitted. -/
namespace Go.Proofs.Ytokblidfekbeeaa
open Go.ChangeShapes Go.WideShapes Go.ChangeAt Go.RowKit
set_option linter.unusedVariables false

abbrev TAct : TypeId := 52
def actC (kind who num : Int) (e : En) : List Value := [.int .i64 kind, .int .i64 who, .int .i64 num, .int .i64 e.kind, .int .i64 e.tick, .int .i64 e.tenant, .int .i64 e.cell, .int .i64 e.other, .int .i64 e.epoch, .int .i64 e.from_, .int .i64 e.until_, .int .i64 e.n]
def actV (kind who num : Int) (e : En) : Value := .agg #[.int .i64 kind, .int .i64 who, .int .i64 num, .int .i64 e.kind, .int .i64 e.tick, .int .i64 e.tenant, .int .i64 e.cell, .int .i64 e.other, .int .i64 e.epoch, .int .i64 e.from_, .int .i64 e.until_, .int .i64 e.n]
theorem act_cells {w : World} {g : Nat} {kind who num : Int} {e : En} (hb : Blk w g TAct (actC kind who num e).toArray) : w.cell? ⟨g, 0, none⟩ = some (.int .i64 kind) ∧ w.cell? ⟨g, 1, none⟩ = some (.int .i64 who) ∧ w.cell? ⟨g, 2, none⟩ = some (.int .i64 num) ∧ w.cell? ⟨g, 3, none⟩ = some (.int .i64 e.kind) ∧ w.cell? ⟨g, 4, none⟩ = some (.int .i64 e.tick) ∧ w.cell? ⟨g, 5, none⟩ = some (.int .i64 e.tenant) ∧ w.cell? ⟨g, 6, none⟩ = some (.int .i64 e.cell) ∧ w.cell? ⟨g, 7, none⟩ = some (.int .i64 e.other) ∧ w.cell? ⟨g, 8, none⟩ = some (.int .i64 e.epoch) ∧ w.cell? ⟨g, 9, none⟩ = some (.int .i64 e.from_) ∧ w.cell? ⟨g, 10, none⟩ = some (.int .i64 e.until_) ∧ w.cell? ⟨g, 11, none⟩ = some (.int .i64 e.n) :=
  ⟨hb.cell 0, hb.cell 1, hb.cell 2, hb.cell 3, hb.cell 4, hb.cell 5, hb.cell 6, hb.cell 7, hb.cell 8, hb.cell 9, hb.cell 10, hb.cell 11⟩
section
variable {w w' : World} {lab lab' : Nat → Option Nat} {z n m : Nat} {pv : Nat → Nat} {q : Qs} {F : Nat → Prop}
set_option maxRecDepth 100000 in
set_option maxHeartbeats 4000000 in
theorem q_permitted (h : QAt w lab z pv q n) (kind who num : Int) (e : En) : Calls Try.prog 43 #[.pointer (some ⟨z, 0, none⟩), actV kind who num e] w fun x w' => x = .returned (.bool (q.permits kind who num)) ∧ Fr No w w' := by
  have hhas := fun W (hf : Fr No w W) => q_has (h.frNo hf) who
  obtain ⟨Ar, cr, NV, DV, vs, h1, h2, h3, h4⟩ := h.mem
  have hn256 := h.ok.net
  obtain ⟨A, c, rfl, -⟩ := h3.own.form
  obtain ⟨W0, hW0⟩ : ∃ W0, W0 = w.alloc (.cells (actC kind who num e).toArray TAct) := ⟨_, rfl⟩
  have hf0 : Fr No w W0 := by rw [hW0]; exact fr_alloc _ _
  obtain ⟨g, hg⟩ : ∃ g, g = w.heap.size := ⟨_, rfl⟩
  have hb0 : Blk W0 g TAct (actC kind who num e).toArray := by rw [hg, hW0]; exact Blk.new _ _ _
  obtain ⟨c0, c1, c2, -⟩ := act_cells hb0
  have z1 : W0.cell? ⟨z, 1, none⟩ = some (.slice A q.net.length c) := (h1.fr hf0 (fun h => h)).cell 1
  have hzl : z < W0.heap.size := Nat.lt_of_lt_of_le (h.lt z 0 h.z0) hf0.size
  have hgl := hb0.lt
  have hP : ∀ b, q.permits kind who num = b → q.permits kind who num = b := fun _ h => h
  unfold Qs.permits at hP
  obtain ⟨Y, hY⟩ : ∃ Y, Y = q.permits kind who num := ⟨_, rfl⟩
  have hYe : Y = if kind = 1 ∨ kind = 2 ∨ kind = 3 ∨ kind = 7 then decide (0 ≤ who ∧ who < q.n) else if kind = 4 ∨ kind = 5 ∨ kind = 6 then decide (0 ≤ num ∧ num < q.net.length) else false := by rw [hY]; rfl
  rw [← hY]
  obtain ⟨ek, ti, te, ce, ot, ep, fr, un, nn⟩ := e
  simp only [actC] at hW0
  unfold actV
  generalize q.net.length = L at *
  generalize q.n = N at *
  have hhas0 := hhas W0 hf0
  clear h h1 h2 h3 h4 hP hY hhas hb0
  have hf0 := Lib.hid hf0
  by_cases hk : kind = 1 ∨ kind = 2 ∨ kind = 3 ∨ kind = 7
  · rw [if_pos hk] at hYe
    rw [← hYe] at hhas0
    clear hYe
    have HHAS0 := Lib.hid hhas0
    have HW0 := Lib.hid hW0
    have HG := Lib.hid hg
    clear hhas0 hW0 hg
    rcases hk with rfl | rfl | rfl | rfl
    all_goals
      go_enter Try.func43, Try.ntmps43
      go_upto_region 1 with fail
      rw [← HW0.out, ← HG.out]
      go_wp2_with fail
      refine HHAS0.out.mono ?_
      rintro x w1 ⟨rfl, rfl⟩
      go_wp2_with fail
      go_ret
      exact ⟨rfl, hf0.out⟩
  · rw [if_neg hk] at hYe
    clear hhas0
    by_cases hk2 : kind = 4 ∨ kind = 5 ∨ kind = 6
    · rw [if_pos hk2] at hYe
      clear hk
      by_cases n0 : 0 ≤ num
      · by_cases n1 : num < L
        · have t0 : decide (0 ≤ num) = true := by simpa using n0
          have t1 : decide (num < (L : Int)) = true := by simpa using n1
          obtain rfl : Y = true := by rw [hYe]; simp; omega
          clear hYe
          have HW0 := Lib.hid hW0
          have HG := Lib.hid hg
          clear hW0 hg
          rcases hk2 with rfl | rfl | rfl
          all_goals
            go_enter Try.func43, Try.ntmps43
            go_upto_region 1 with fail
            rw [← HW0.out, ← HG.out]
            go_wp2_with fail
            go_quiet (fail)
            go_wp2_with fail
            go_ret
            exact ⟨rfl, hf0.out.drewN _⟩
        · have t0 : decide (0 ≤ num) = true := by simpa using n0
          have t1 : decide (num < (L : Int)) = false := by simpa using n1
          obtain rfl : Y = false := by rw [hYe]; simp; omega
          clear hYe
          have HW0 := Lib.hid hW0
          have HG := Lib.hid hg
          clear hW0 hg
          rcases hk2 with rfl | rfl | rfl
          all_goals
            go_enter Try.func43, Try.ntmps43
            go_upto_region 1 with fail
            rw [← HW0.out, ← HG.out]
            go_wp2_with fail
            go_quiet (fail)
            go_wp2_with fail
            go_ret
            exact ⟨rfl, hf0.out.drewN _⟩
      · have t0 : decide (0 ≤ num) = false := by simpa using n0
        obtain rfl : Y = false := by rw [hYe]; simp; omega
        clear hYe
        have HW0 := Lib.hid hW0
        have HG := Lib.hid hg
        clear hW0 hg
        rcases hk2 with rfl | rfl | rfl
        all_goals
          go_enter Try.func43, Try.ntmps43
          go_upto_region 1 with fail
          rw [← HW0.out, ← HG.out]
          go_wp2_with fail
          go_quiet (fail)
          go_wp2_with fail
          go_ret
          exact ⟨rfl, hf0.out.drewN _⟩
    · rw [if_neg hk2] at hYe
      obtain ⟨k1, k2, k3, k7⟩ : kind ≠ 1 ∧ kind ≠ 2 ∧ kind ≠ 3 ∧ kind ≠ 7 := by omega
      obtain ⟨k4, k5, k6⟩ : kind ≠ 4 ∧ kind ≠ 5 ∧ kind ≠ 6 := by omega
      clear hk hk2
      subst hYe
      have HW0 := Lib.hid hW0
      have HG := Lib.hid hg
      clear hW0 hg
      go_enter Try.func43, Try.ntmps43
      go_upto_region 1 with fail
      rw [← HW0.out, ← HG.out]
      go_wp2_with fail
      go_ret
      exact ⟨rfl, hf0.out⟩
end
end Go.Proofs.Ytokblidfekbeeaa
/- The program's quorum: how the steps of an act go together. -/
namespace Go.Proofs.Ytokblidfekbeeaa
open Go.ChangeShapes Go.WideShapes Go.ChangeAt Go.RowKit
set_option linter.unusedVariables false

theorem others_leS (i n : Nat) : (others i n).length ≤ n := by
  unfold others
  exact Nat.le_trans (List.length_filter_le _ _) (by simp)
theorem RsOk.toAll_len {r : Rs} (h : RsOk r) : r.toAll.length ≤ 5 := by
  unfold Rs.toAll
  rw [List.length_map]
  exact Nat.le_trans (others_leS _ _) h.five
theorem RsOk.campaign_len {r : Rs} (h : RsOk r) : r.campaign.2.length ≤ 5 := by
  unfold Rs.campaign
  split
  · simp
  · split
    · simp
    · simp only [List.length_map]
      exact Nat.le_trans (others_leS _ _) h.five
theorem RsOk.propose_len {r : Rs} (h : RsOk r) (e : En) (he : e.ok) : (r.propose e).2.length ≤ 5 := by
  unfold Rs.propose
  split
  · exact (h.proposed e he).toAll_len
  · simp
theorem RsOk.beat_len {r : Rs} (h : RsOk r) : r.beat.length ≤ 5 := by
  unfold Rs.beat
  split
  · simp
  · exact h.toAll_len
theorem RsOk.takes_len {r : Rs} (h : RsOk r) {m : Ms} (hm : Proper r m) : (r.takes m).2.length ≤ 5 := by
  unfold Rs.takes
  split
  · simp [Rs.onVote]
  · split
    · unfold Rs.onVoted
      split
      · simp
      · split
        · simp
        · exact (h.voted hm).lead.toAll_len
    · split
      · unfold Rs.onAppend
        split
        · simp [Rs.answer]
        · split
          · simp
          · split
            · simp [Rs.answer]
            · split
              · split
                · simp
                · simp [Rs.answer]
              · simp [Rs.answer]
      · unfold Rs.onStored
        split
        · simp
        · split
          · simp
          · split <;> simp
theorem RsOk.handle_len {r : Rs} (h : RsOk r) {m : Ms} : (r.handle m).2.length ≤ 5 := by
  unfold Rs.handle
  split
  · simp
  · rename_i hp
    have hm : Proper r m := Rs.proper_iff.1 (by simpa using hp)
    exact (h.meets m.term hm.t1).takes_len (hm.of_meets m.term)

section
variable {w w' : World} {lab lab' : Nat → Option Nat} {z n m : Nat} {pv : Nat → Nat} {q q1 : Qs} {F : Nat → Prop}
theorem SendAt.to {l : List Ms} (h : SendAt w lab z pv q n l l.length w') : QTo w lab z pv { q with net := sendAll q.net l } n w' := by
  obtain ⟨lab', h1, h2, h3, h4, -⟩ := h
  rw [List.take_length] at h1
  exact ⟨lab', h1, h2, h4.mono fun b hb => by rcases hb with hb | hb <;> rw [hb] <;> simp⟩
theorem NoteAt.to (h : NoteAt w lab z pv q n q.n w') : QTo w lab z pv q.note n w' := by
  obtain ⟨lab', h1, h2, h3, h4⟩ := h
  exact ⟨lab', h1, h2, h4.mono fun b hb => by rw [hb]; simp⟩
theorem QTo.from {w1 : World} {lab1 : Nat → Option Nat} (h : QTo w1 lab1 z pv q n w') (ha : ∀ b, b < w.heap.size → lab1 b = lab b) (hf : Fr (fun b => lab b ≠ none) w w1) : QTo w lab z pv q n w' := by
  obtain ⟨lab2, a2, b2, c2⟩ := h
  refine ⟨lab2, a2, fun b hb => (b2 b (Nat.lt_of_lt_of_le hb hf.size)).trans (ha b hb), hf.trans c2 fun b hb => ?_⟩
  rcases Nat.lt_or_ge b w.heap.size with hl | hl
  · rw [ha b hl] at hb
    exact .inl hb
  · exact .inr hl
/-- What the pointers of a quorum lie in is kept. -/
def Keeps (w : World) (lab : Nat → Option Nat) (z : Nat) (W : World) : Prop :=
  (∀ p : Addr, p.block < w.heap.size → (lab p.block = none ∨ lab p.block = some 1) → W.cell? p = w.cell? p) ∧ W.cell? ⟨z, 0, none⟩ = w.cell? ⟨z, 0, none⟩
theorem QAt.row1 (h : QAt w lab z pv q n) : ∃ br cr, q.n ≤ cr ∧ cr ≤ maxLen ∧ lab br = some 1 ∧ br < w.heap.size ∧ w.cell? ⟨z, 0, none⟩ = some (.slice (some ⟨br, 0, none⟩) q.n cr) ∧ ∀ i, i < q.n → w.cell? ⟨br, i, none⟩ = some (.pointer (some ⟨pv i, 0, none⟩)) := by
  obtain ⟨Ar, cr, NV, DV, vs, h1, h2, h3, h4⟩ := h.mem
  have hp := h.ok.pos
  have hc := h2.cap
  obtain ⟨br, rfl, hbl, hb1, hb⟩ := own_head h2 hp
  refine ⟨br, cr, hc.1, hc.2, hb1, hbl, h1.cell 0, fun i hi => ?_⟩
  rw [(hb i (by simpa using hi)).1]
  simp
theorem QAt.keeps (h : QAt w lab z pv q n) {i : Nat} (hf : Fr (part lab (10 + i)) w w') : Keeps w lab z w' := by
  refine ⟨fun p hp hl => hf.cell hp fun (hh : lab p.block = some (10 + i)) => ?_, hf.cell (p := ⟨z, 0, none⟩) (h.lt z 0 h.z0) (part_ne (show (0 : Nat) ≠ 10 + i by omega) z h.z0)⟩
  rw [hh] at hl
  rcases hl with hl | hl
  · cases hl
  · injection hl with hl
    omega
/-- Replica i has turned: what is to be sent may be sent, and then all is as it should be. -/
theorem QAt.sent (h : QAt w lab z pv q n) {i : Nat} (hi : i < q.n) {x : Rs × List Ms} {e : Ending} (hnm : n ≤ m) (hc : CallTo w (part lab (10 + i)) (pv i) x m e w') (h1 : x.1.id = (q.rs i).id) (h2 : x.1.n = (q.rs i).n) (hto : ∀ y ∈ x.2, MsgTo q.n y) (hl : x.2.length ≤ 5) :
    ∃ A c, e = .returned (.slice A x.2.length c) ∧ Keeps w lab z w' ∧ Calls Try.prog 40 #[.pointer (some ⟨z, 0, none⟩), .slice A x.2.length c] w' fun e2 w2 => e2 = .returned (.tuple #[]) ∧ Keeps w lab z w2 ∧ QTo w lab z pv (q.put i x) m w2 := by
  obtain ⟨A, c, lab', Gs, vs, e1, a1, a2, a3, a4, a5⟩ := h.turned hi hnm hc h1 h2
  have hk := h.keeps a5
  refine ⟨A, c, e1, hk, (q_send a1 a2 a3 hto (by omega)).mono ?_⟩
  rintro e2 w2 ⟨rfl, s⟩
  refine ⟨rfl, ⟨fun p hp hl => ?_, ?_⟩, ?_⟩
  · obtain ⟨-, -, -, -, s4, -⟩ := s
    rw [s4.cell (Nat.lt_of_lt_of_le hp a5.size) (fun hh => ?_), hk.1 p hp hl]
    rw [a4 _ hp] at hh
    rcases hl with hl | hl <;> rw [hl] at hh <;> simp at hh
  · obtain ⟨-, -, -, -, -, s5⟩ := s
    exact s5.trans hk.2
  · have := s.to
    exact this.from a4 (a5.mono fun b hb => by
      have hb : lab b = some (10 + i) := hb
      rw [hb]; simp)
/-- What was committed is taken over. -/
theorem QTo.noted (h : QTo w lab z pv q n w') : Calls Try.prog 42 #[.pointer (some ⟨z, 0, none⟩)] w' fun e2 w2 => e2 = .returned (.tuple #[]) ∧ QTo w lab z pv q.note n w2 := by
  obtain ⟨lab', h1, h2, h3⟩ := h
  refine (q_note h1).mono ?_
  rintro e2 w2 ⟨rfl, s⟩
  exact ⟨rfl, s.to.from h2 h3⟩
end
end Go.Proofs.Ytokblidfekbeeaa
/- The program's quorum: its acts. -/
namespace Go.Proofs.Ytokblidfekbeeaa
open Go.ChangeShapes Go.WideShapes Go.ChangeAt Go.RowKit
set_option linter.unusedVariables false
section
variable {w w' : World} {lab lab' : Nat → Option Nat} {z n m : Nat} {pv : Nat → Nat} {q q1 : Qs} {F : Nat → Prop}
def DoTo (w : World) (lab : Nat → Option Nat) (z : Nat) (pv : Nat → Nat) (q : Qs) (n : Nat) (kind who num : Int) (e : En) (x : Ending) (w' : World) : Prop :=
  x = .returned (.int .i64 (q.actX kind who num e)) ∧ QTo w lab z pv (q.act kind who num e) (n + 700000) w'
def beatX (r : Rs) : Rs × List Ms := (r, r.beat)
theorem p_beatX {p : Nat} {r : Rs} (h : RAt w F p r n) : Calls Try.prog 46 #[.pointer (some ⟨p, 0, none⟩)] w (CallTo w F p (beatX r) n) :=
  (p_beat h).mono fun _ _ k => CallTo.mk' (h.still (Fr.refl _ _)) k
theorem beatX_n (r : Rs) : (beatX r).1.id = r.id ∧ (beatX r).1.n = r.n := ⟨rfl, rfl⟩
set_option maxRecDepth 100000 in
set_option maxHeartbeats 8000000 in
theorem q_do_1 (h : QAt w lab z pv q n) (i : Nat) (hi : i < q.n) (num : Int) (e : En) (hsz : n + 800000 ≤ 140737488355328) : Calls Try.prog 24 #[.pointer (some ⟨z, 0, none⟩), actV 1 i num e] w (DoTo w lab z pv q n 1 i num e) := by
  have hpm : q.permits 1 (i : Int) num = true := by unfold Qs.permits; simp; omega
  have hX : q.actX 1 (i : Int) num e = 0 := by unfold Qs.actX; simp [hpm]
  have hA : q.act 1 (i : Int) num e = (q.put i ((q.rs i).campaign)).note := by unfold Qs.act; simp [hX] <;> rfl
  obtain ⟨W0, hW0⟩ : ∃ W0, W0 = w.alloc (.cells (actC 1 (i : Int) num e).toArray TAct) := ⟨_, rfl⟩
  have hf0 : Fr No w W0 := by rw [hW0]; exact fr_alloc _ _
  obtain ⟨g, hg⟩ : ∃ g, g = w.heap.size := ⟨_, rfl⟩
  have hb0 : Blk W0 g TAct (actC 1 (i : Int) num e).toArray := by rw [hg, hW0]; exact Blk.new _ _ _
  have hper := q_permitted (h.frNo hf0) 1 (i : Int) num e
  rw [hpm] at hper
  have hac := fun W (hf : Fr No W0 W) => act_cells (hb0.fr hf (fun h => h))
  obtain ⟨br, cr, hnc, hcm, hb1, hbl, r0, r1⟩ := h.row1
  have hzw := h.lt z 0 h.z0
  have hgn : lab g = none := by
    cases hlg : lab g with
    | none => rfl
    | some j => exact absurd (h.lt g j hlg) (by omega)
  have hks := fun W V (hf : Fr No W0 W) (hk : Keeps W lab z V) => (⟨hk.2.trans (((hf0.transNo hf).cell (p := ⟨z, 0, none⟩) hzw fun h => h).trans r0), (hk.1 ⟨g, 1, none⟩ (Nat.lt_of_lt_of_le hb0.lt hf.size) (.inl hgn)).trans ((hb0.fr hf fun h => h).cell 1), (hk.1 ⟨br, i, none⟩ (Nat.lt_of_lt_of_le hbl (hf0.transNo hf).size) (.inr hb1)).trans (((hf0.transNo hf).cell (p := ⟨br, i, none⟩) hbl fun h => h).trans (r1 i hi))⟩ : V.cell? ⟨z, 0, none⟩ = some (.slice (some ⟨br, 0, none⟩) q.n cr) ∧ V.cell? ⟨g, 1, none⟩ = some (.int .i64 i) ∧ V.cell? ⟨br, i, none⟩ = some (.pointer (some ⟨pv i, 0, none⟩)))
  have h5 := h.ok.five
  obtain ⟨o1, o2, o3⟩ := h.ok.each i hi
  have hcall := fun W (hf : Fr No w W) => p_campaign ((h.frNo hf).reps i hi) (by omega)
  have hsent := fun W W' x (hf : Fr No w W) hc => (h.frNo hf).sent (m := n + 48) hi (x := ((q.rs i).campaign)) (e := x) (w' := W') (by omega) hc (campaign_n _).1 (campaign_n _).2 (by have := o1.campaign_to; rw [o3] at this; exact this) o1.campaign_len
  have hend := fun W W' (hf : Fr No w W) (hq : QTo W lab z pv (q.put i ((q.rs i).campaign)).note (n + 48) W') => QTo.after (n := n + 700000) hf h.lt (hq.more (by omega))
  have hi2 : (i : Int) < (q.n : Int) := by omega
  have hzl : z < W0.heap.size := Nat.lt_of_lt_of_le (h.lt z 0 h.z0) hf0.size
  obtain ⟨c0, c1, c2, c3, c4, c5, c6, c7, c8, c9, c10, c11⟩ := hac W0 (Fr.refl _ _)
  have hgl := hb0.lt
  unfold maxLen at hcm
  unfold DoTo
  rw [hX, hA]
  have FF := Lib.hid hf0
  obtain ⟨ek, ti, te, ce, ot, ep, fr, un, nn⟩ := e
  simp only [actC] at hW0
  simp only at c3 c4 c5 c6 c7 c8 c9 c10 c11
  unfold actV at hper ⊢
  clear h hpm hX hA hb0 hf0 o1 o2 o3
  have HPER := Lib.hid hper
  have HAC := Lib.hid hac
  have HKS := Lib.hid hks
  have HCALL := Lib.hid hcall
  have HSENT := Lib.hid hsent
  have HEND := Lib.hid hend
  have HW0 := Lib.hid hW0
  have HG := Lib.hid hg
  clear hper hac hks hcall hsent hend hW0 hg
  go_enter Try.func24, Try.ntmps24
  go_upto_region 1 with fail
  rw [← HW0.out, ← HG.out]
  go_wp2_with fail
  refine HPER.out.mono ?_
  rintro e w1 ⟨rfl, f1⟩
  obtain ⟨d0, d1, d2, -⟩ := HAC.out w1 f1
  have F1 := Lib.hid (FF.out.transNo f1).drew
  have hd := HKS.out w1.drew w1.drew f1.drew ⟨fun _ _ _ => rfl, rfl⟩
  have HKT := Lib.hid fun V (hk : Keeps w1.drew lab z V) => HKS.out w1.drew V f1.drew hk
  have hz1 : z < w1.heap.size := Nat.lt_of_lt_of_le hzl f1.size
  have hg1 : g < w1.heap.size := Nat.lt_of_lt_of_le hgl f1.size
  have hcal := Lib.hid (HCALL.out _ F1.out)
  have hsen := Lib.hid fun W' x => HSENT.out _ W' x F1.out
  clear c0 c1 c2 c3 c4 c5 c6 c7 c8 c9 c10 c11 f1 HKS HAC HCALL HSENT HPER r0 r1
  go_wp2_with fail
  go_region_held3 (fun V => V.cell? ⟨z, 0, none⟩ = some (.slice (some ⟨br, 0, none⟩) q.n cr) ∧ V.cell? ⟨g, 1, none⟩ = some (.int .i64 i) ∧ V.cell? ⟨br, i, none⟩ = some (.pointer (some ⟨pv i, 0, none⟩))) (first | exact hd | exact k1 | exact k2) (first
    | (go_at_call 44; refine hcal.out.mono ?_; rintro e v1 hc; obtain ⟨A1, c1', rfl, k1', hs⟩ := hsen.out _ _ hc; have k1 := HKT.out _ k1'; have HS2 := Lib.hid hs; clear hc k1' hs)
    | (go_at_call 40; refine HS2.out.mono ?_; rintro e v2 ⟨rfl, k2', q2⟩; have k2 := HKT.out _ k2'; have Q2 := Lib.hid q2; clear k2' q2))
  have hnote := Lib.hid (QTo.noted Q2.out)
  clear hd HKT d0 d1 d2 k2 hcal hsen HS2
  go_wp2_with fail
  refine hnote.out.mono ?_
  rintro e v3 ⟨rfl, q3⟩
  have Q3 := Lib.hid (HEND.out _ _ F1.out q3)
  clear q3 hnote HEND Q2
  go_wp2_with fail
  go_ret
  exact ⟨rfl, Q3.out⟩
set_option maxRecDepth 100000 in
set_option maxHeartbeats 8000000 in
theorem q_do_3 (h : QAt w lab z pv q n) (i : Nat) (hi : i < q.n) (num : Int) (e : En) (hsz : n + 800000 ≤ 140737488355328) : Calls Try.prog 24 #[.pointer (some ⟨z, 0, none⟩), actV 3 i num e] w (DoTo w lab z pv q n 3 i num e) := by
  have hpm : q.permits 3 (i : Int) num = true := by unfold Qs.permits; simp; omega
  have hX : q.actX 3 (i : Int) num e = 0 := by unfold Qs.actX; simp [hpm]
  have hA : q.act 3 (i : Int) num e = (q.put i (beatX (q.rs i))).note := by unfold Qs.act; simp [hX] <;> rfl
  obtain ⟨W0, hW0⟩ : ∃ W0, W0 = w.alloc (.cells (actC 3 (i : Int) num e).toArray TAct) := ⟨_, rfl⟩
  have hf0 : Fr No w W0 := by rw [hW0]; exact fr_alloc _ _
  obtain ⟨g, hg⟩ : ∃ g, g = w.heap.size := ⟨_, rfl⟩
  have hb0 : Blk W0 g TAct (actC 3 (i : Int) num e).toArray := by rw [hg, hW0]; exact Blk.new _ _ _
  have hper := q_permitted (h.frNo hf0) 3 (i : Int) num e
  rw [hpm] at hper
  have hac := fun W (hf : Fr No W0 W) => act_cells (hb0.fr hf (fun h => h))
  obtain ⟨br, cr, hnc, hcm, hb1, hbl, r0, r1⟩ := h.row1
  have hzw := h.lt z 0 h.z0
  have hgn : lab g = none := by
    cases hlg : lab g with
    | none => rfl
    | some j => exact absurd (h.lt g j hlg) (by omega)
  have hks := fun W V (hf : Fr No W0 W) (hk : Keeps W lab z V) => (⟨hk.2.trans (((hf0.transNo hf).cell (p := ⟨z, 0, none⟩) hzw fun h => h).trans r0), (hk.1 ⟨g, 1, none⟩ (Nat.lt_of_lt_of_le hb0.lt hf.size) (.inl hgn)).trans ((hb0.fr hf fun h => h).cell 1), (hk.1 ⟨br, i, none⟩ (Nat.lt_of_lt_of_le hbl (hf0.transNo hf).size) (.inr hb1)).trans (((hf0.transNo hf).cell (p := ⟨br, i, none⟩) hbl fun h => h).trans (r1 i hi))⟩ : V.cell? ⟨z, 0, none⟩ = some (.slice (some ⟨br, 0, none⟩) q.n cr) ∧ V.cell? ⟨g, 1, none⟩ = some (.int .i64 i) ∧ V.cell? ⟨br, i, none⟩ = some (.pointer (some ⟨pv i, 0, none⟩)))
  have h5 := h.ok.five
  obtain ⟨o1, o2, o3⟩ := h.ok.each i hi
  have hcall := fun W (hf : Fr No w W) => p_beatX ((h.frNo hf).reps i hi)
  have hsent := fun W W' x (hf : Fr No w W) hc => (h.frNo hf).sent (m := n) hi (x := (beatX (q.rs i))) (e := x) (w' := W') (by omega) hc (beatX_n _).1 (beatX_n _).2 (by have := o1.beat_to; rw [o3] at this; exact this) o1.beat_len
  have hend := fun W W' (hf : Fr No w W) (hq : QTo W lab z pv (q.put i (beatX (q.rs i))).note (n) W') => QTo.after (n := n + 700000) hf h.lt (hq.more (by omega))
  have hi2 : (i : Int) < (q.n : Int) := by omega
  have hzl : z < W0.heap.size := Nat.lt_of_lt_of_le (h.lt z 0 h.z0) hf0.size
  obtain ⟨c0, c1, c2, c3, c4, c5, c6, c7, c8, c9, c10, c11⟩ := hac W0 (Fr.refl _ _)
  have hgl := hb0.lt
  unfold maxLen at hcm
  unfold DoTo
  rw [hX, hA]
  have FF := Lib.hid hf0
  obtain ⟨ek, ti, te, ce, ot, ep, fr, un, nn⟩ := e
  simp only [actC] at hW0
  simp only at c3 c4 c5 c6 c7 c8 c9 c10 c11
  unfold actV at hper ⊢
  clear h hpm hX hA hb0 hf0 o1 o2 o3
  have HPER := Lib.hid hper
  have HAC := Lib.hid hac
  have HKS := Lib.hid hks
  have HCALL := Lib.hid hcall
  have HSENT := Lib.hid hsent
  have HEND := Lib.hid hend
  have HW0 := Lib.hid hW0
  have HG := Lib.hid hg
  clear hper hac hks hcall hsent hend hW0 hg
  go_enter Try.func24, Try.ntmps24
  go_upto_region 1 with fail
  rw [← HW0.out, ← HG.out]
  go_wp2_with fail
  refine HPER.out.mono ?_
  rintro e w1 ⟨rfl, f1⟩
  obtain ⟨d0, d1, d2, -⟩ := HAC.out w1 f1
  have F1 := Lib.hid (FF.out.transNo f1).drew
  have hd := HKS.out w1.drew w1.drew f1.drew ⟨fun _ _ _ => rfl, rfl⟩
  have HKT := Lib.hid fun V (hk : Keeps w1.drew lab z V) => HKS.out w1.drew V f1.drew hk
  have hz1 : z < w1.heap.size := Nat.lt_of_lt_of_le hzl f1.size
  have hg1 : g < w1.heap.size := Nat.lt_of_lt_of_le hgl f1.size
  have hcal := Lib.hid (HCALL.out _ F1.out)
  have hsen := Lib.hid fun W' x => HSENT.out _ W' x F1.out
  clear c0 c1 c2 c3 c4 c5 c6 c7 c8 c9 c10 c11 f1 HKS HAC HCALL HSENT HPER r0 r1
  go_wp2_with fail
  go_region_held3 (fun V => V.cell? ⟨z, 0, none⟩ = some (.slice (some ⟨br, 0, none⟩) q.n cr) ∧ V.cell? ⟨g, 1, none⟩ = some (.int .i64 i) ∧ V.cell? ⟨br, i, none⟩ = some (.pointer (some ⟨pv i, 0, none⟩))) (first | exact hd | exact k1 | exact k2) (first
    | (go_at_call 46; refine hcal.out.mono ?_; rintro e v1 hc; obtain ⟨A1, c1', rfl, k1', hs⟩ := hsen.out _ _ hc; have k1 := HKT.out _ k1'; have HS2 := Lib.hid hs; clear hc k1' hs)
    | (go_at_call 40; refine HS2.out.mono ?_; rintro e v2 ⟨rfl, k2', q2⟩; have k2 := HKT.out _ k2'; have Q2 := Lib.hid q2; clear k2' q2))
  have hnote := Lib.hid (QTo.noted Q2.out)
  clear hd HKT d0 d1 d2 k2 hcal hsen HS2
  go_wp2_with fail
  refine hnote.out.mono ?_
  rintro e v3 ⟨rfl, q3⟩
  have Q3 := Lib.hid (HEND.out _ _ F1.out q3)
  clear q3 hnote HEND Q2
  go_wp2_with fail
  go_ret
  exact ⟨rfl, Q3.out⟩
theorem QAt.crashed (h : QAt w lab z pv q n) {i : Nat} (hi : i < q.n) {r : Rs} (hr : RTo w (part lab (10 + i)) (pv i) r n w') (h1 : r.id = (q.rs i).id) (h2 : r.n = (q.rs i).n) : QTo w lab z pv (q.put i (r, [])) n w' ∧ Keeps w lab z w' := by
  obtain ⟨A, c, lab', Gs, vs, -, a2, -, -, a5, a6⟩ := h.turned hi (Nat.le_refl _) (CallTo.mk' hr (MsTo.none_ w')) h1 h2
  exact ⟨⟨lab', a2, a5, a6.mono fun b hb => by
    have hb : lab b = some (10 + i) := hb
    rw [hb]; simp⟩, h.keeps a6⟩
set_option maxRecDepth 100000 in
set_option maxHeartbeats 8000000 in
theorem q_do_7 (h : QAt w lab z pv q n) (i : Nat) (hi : i < q.n) (num : Int) (e : En) : Calls Try.prog 24 #[.pointer (some ⟨z, 0, none⟩), actV 7 i num e] w (DoTo w lab z pv q n 7 i num e) := by
  have hpm : q.permits 7 (i : Int) num = true := by unfold Qs.permits; simp; omega
  have hX : q.actX 7 (i : Int) num e = 0 := by unfold Qs.actX; simp [hpm]
  have hA : q.act 7 (i : Int) num e = (q.put i ((q.rs i).crash, [])).note := by unfold Qs.act; simp [hX]
  obtain ⟨W0, hW0⟩ : ∃ W0, W0 = w.alloc (.cells (actC 7 (i : Int) num e).toArray TAct) := ⟨_, rfl⟩
  have hf0 : Fr No w W0 := by rw [hW0]; exact fr_alloc _ _
  obtain ⟨g, hg⟩ : ∃ g, g = w.heap.size := ⟨_, rfl⟩
  have hb0 : Blk W0 g TAct (actC 7 (i : Int) num e).toArray := by rw [hg, hW0]; exact Blk.new _ _ _
  have hper := q_permitted (h.frNo hf0) 7 (i : Int) num e
  rw [hpm] at hper
  have hac := fun W (hf : Fr No W0 W) => act_cells (hb0.fr hf (fun h => h))
  obtain ⟨br, cr, hnc, hcm, hb1, hbl, r0, r1⟩ := h.row1
  have hzw := h.lt z 0 h.z0
  have hgn : lab g = none := by
    cases hlg : lab g with
    | none => rfl
    | some j => exact absurd (h.lt g j hlg) (by omega)
  have hks := fun W V (hf : Fr No W0 W) (hk : Keeps W lab z V) => (⟨hk.2.trans (((hf0.transNo hf).cell (p := ⟨z, 0, none⟩) hzw fun h => h).trans r0), (hk.1 ⟨g, 1, none⟩ (Nat.lt_of_lt_of_le hb0.lt hf.size) (.inl hgn)).trans ((hb0.fr hf fun h => h).cell 1), (hk.1 ⟨g, 2, none⟩ (Nat.lt_of_lt_of_le hb0.lt hf.size) (.inl hgn)).trans ((hb0.fr hf fun h => h).cell 2), (hk.1 ⟨br, i, none⟩ (Nat.lt_of_lt_of_le hbl (hf0.transNo hf).size) (.inr hb1)).trans (((hf0.transNo hf).cell (p := ⟨br, i, none⟩) hbl fun h => h).trans (r1 i hi))⟩ : V.cell? ⟨z, 0, none⟩ = some (.slice (some ⟨br, 0, none⟩) q.n cr) ∧ V.cell? ⟨g, 1, none⟩ = some (.int .i64 i) ∧ V.cell? ⟨g, 2, none⟩ = some (.int .i64 num) ∧ V.cell? ⟨br, i, none⟩ = some (.pointer (some ⟨pv i, 0, none⟩)))
  have h5 := h.ok.five
  have hcall := fun W (hf : Fr No w W) => p_crash ((h.frNo hf).reps i hi) num
  have hdone := fun W W' (hf : Fr No w W) (hr : RTo W (part lab (10 + i)) (pv i) (q.rs i).crash n W') => (h.frNo hf).crashed hi hr rfl rfl
  have hend := fun W W' (hf : Fr No w W) (hq : QTo W lab z pv (q.put i ((q.rs i).crash, [])).note n W') => QTo.after (n := n + 700000) hf h.lt (hq.more (by omega))
  have hi2 : (i : Int) < (q.n : Int) := by omega
  have hzl : z < W0.heap.size := Nat.lt_of_lt_of_le (h.lt z 0 h.z0) hf0.size
  obtain ⟨c0, c1, c2, c3, c4, c5, c6, c7, c8, c9, c10, c11⟩ := hac W0 (Fr.refl _ _)
  have hgl := hb0.lt
  unfold maxLen at hcm
  unfold DoTo
  rw [hX, hA]
  have FF := Lib.hid hf0
  obtain ⟨ek, ti, te, ce, ot, ep, fr, un, nn⟩ := e
  simp only [actC] at hW0
  simp only at c3 c4 c5 c6 c7 c8 c9 c10 c11
  unfold actV at hper ⊢
  clear h hpm hX hA hb0 hf0
  have HPER := Lib.hid hper
  have HAC := Lib.hid hac
  have HKS := Lib.hid hks
  have HCALL := Lib.hid hcall
  have HDONE := Lib.hid hdone
  have HEND := Lib.hid hend
  have HW0 := Lib.hid hW0
  have HG := Lib.hid hg
  clear hper hac hks hcall hdone hend hW0 hg
  go_enter Try.func24, Try.ntmps24
  go_upto_region 1 with fail
  rw [← HW0.out, ← HG.out]
  go_wp2_with fail
  refine HPER.out.mono ?_
  rintro e w1 ⟨rfl, f1⟩
  obtain ⟨d0, d1, d2, -⟩ := HAC.out w1 f1
  have F1 := Lib.hid (FF.out.transNo f1).drew
  have hd := HKS.out w1.drew w1.drew f1.drew ⟨fun _ _ _ => rfl, rfl⟩
  have HKT := Lib.hid fun V (hk : Keeps w1.drew lab z V) => HKS.out w1.drew V f1.drew hk
  have hz1 : z < w1.heap.size := Nat.lt_of_lt_of_le hzl f1.size
  have hg1 : g < w1.heap.size := Nat.lt_of_lt_of_le hgl f1.size
  have hcal := Lib.hid (HCALL.out _ F1.out)
  have hsen := Lib.hid fun W' => HDONE.out _ W' F1.out
  clear c0 c1 c2 c3 c4 c5 c6 c7 c8 c9 c10 c11 f1 HKS HAC HCALL HDONE HPER r0 r1
  go_wp2_with fail
  go_region_held3 (fun V => V.cell? ⟨z, 0, none⟩ = some (.slice (some ⟨br, 0, none⟩) q.n cr) ∧ V.cell? ⟨g, 1, none⟩ = some (.int .i64 i) ∧ V.cell? ⟨g, 2, none⟩ = some (.int .i64 num) ∧ V.cell? ⟨br, i, none⟩ = some (.pointer (some ⟨pv i, 0, none⟩))) (first | exact hd | exact k1) (first
    | (go_at_call 47; refine hcal.out.mono ?_; rintro e v1 ⟨rfl, hc⟩; obtain ⟨q2, k1'⟩ := hsen.out _ hc; have k1 := HKT.out _ k1'; have Q2 := Lib.hid q2; clear hc k1' q2))
  have hnote := Lib.hid (QTo.noted Q2.out)
  clear hd HKT d0 d1 d2 k1 hcal hsen
  go_wp2_with fail
  refine hnote.out.mono ?_
  rintro e v3 ⟨rfl, q3⟩
  have Q3 := Lib.hid (HEND.out _ _ F1.out q3)
  clear q3 hnote HEND Q2
  go_wp2_with fail
  go_ret
  exact ⟨rfl, Q3.out⟩
set_option maxRecDepth 100000 in
set_option maxHeartbeats 8000000 in
theorem q_do_6 (h : QAt w lab z pv q n) (who : Int) (i : Nat) (hi : i < q.net.length) (e : En) : Calls Try.prog 24 #[.pointer (some ⟨z, 0, none⟩), actV 6 who i e] w (DoTo w lab z pv q n 6 who i e) := by
  have hpm : q.permits 6 who (i : Int) = true := by unfold Qs.permits; simp; omega
  have hX : q.actX 6 who (i : Int) e = 0 := by unfold Qs.actX; simp [hpm]
  have hA : q.act 6 who (i : Int) e = (q.remove i).note := by unfold Qs.act; simp [hX]
  obtain ⟨W0, hW0⟩ : ∃ W0, W0 = w.alloc (.cells (actC 6 who (i : Int) e).toArray TAct) := ⟨_, rfl⟩
  have hf0 : Fr No w W0 := by rw [hW0]; exact fr_alloc _ _
  obtain ⟨g, hg⟩ : ∃ g, g = w.heap.size := ⟨_, rfl⟩
  have hb0 : Blk W0 g TAct (actC 6 who (i : Int) e).toArray := by rw [hg, hW0]; exact Blk.new _ _ _
  have hper := q_permitted (h.frNo hf0) 6 who (i : Int) e
  rw [hpm] at hper
  have hac := fun W (hf : Fr No W0 W) => act_cells (hb0.fr hf (fun h => h))
  have hcall := fun W (hf : Fr No w W) => q_remove (h.frNo hf) i hi
  have hdone := fun W W' (hf : Fr No w W) (hq : QAt W' lab z pv (q.remove i) n) (hr : Fr (fun b => lab b = some 0 ∨ lab b = some 2) W W') => (⟨lab, hq, fun _ _ => rfl, hr.mono fun b hb => by rcases hb with hb | hb <;> rw [hb] <;> simp⟩ : QTo W lab z pv (q.remove i) n W')
  have hend := fun W W' (hf : Fr No w W) (hq : QTo W lab z pv (q.remove i).note n W') => QTo.after (n := n + 700000) hf h.lt (hq.more (by omega))
  have hzl : z < W0.heap.size := Nat.lt_of_lt_of_le (h.lt z 0 h.z0) hf0.size
  obtain ⟨c0, c1, c2, c3, c4, c5, c6, c7, c8, c9, c10, c11⟩ := hac W0 (Fr.refl _ _)
  have hgl := hb0.lt
  unfold DoTo
  rw [hX, hA]
  have FF := Lib.hid hf0
  obtain ⟨ek, ti, te, ce, ot, ep, fr, un, nn⟩ := e
  simp only [actC] at hW0
  simp only at c3 c4 c5 c6 c7 c8 c9 c10 c11
  unfold actV at hper ⊢
  clear h hpm hX hA hb0 hf0
  have HPER := Lib.hid hper
  have HAC := Lib.hid hac
  have HCALL := Lib.hid hcall
  have HDONE := Lib.hid hdone
  have HEND := Lib.hid hend
  have HW0 := Lib.hid hW0
  have HG := Lib.hid hg
  clear hper hac hcall hdone hend hW0 hg
  go_enter Try.func24, Try.ntmps24
  go_upto_region 1 with fail
  rw [← HW0.out, ← HG.out]
  go_wp2_with fail
  refine HPER.out.mono ?_
  rintro e w1 ⟨rfl, f1⟩
  obtain ⟨d0, d1, d2, -⟩ := HAC.out w1 f1
  have F1 := Lib.hid (FF.out.transNo f1)
  have hg1 : g < w1.heap.size := Nat.lt_of_lt_of_le hgl f1.size
  have hcal := Lib.hid (HCALL.out _ F1.out)
  clear c0 c1 c2 c3 c4 c5 c6 c7 c8 c9 c10 c11 f1 HAC HCALL HPER
  go_wp2_with fail
  refine hcal.out.mono ?_
  rintro e v2 ⟨rfl, q1, f2⟩
  have Q2 := Lib.hid (HDONE.out _ _ F1.out q1 f2)
  have hnote := Lib.hid (QTo.noted Q2.out)
  clear d0 d1 d2 hcal q1 f2 HDONE
  go_wp2_with fail
  refine hnote.out.mono ?_
  rintro e v3 ⟨rfl, q3⟩
  have Q3 := Lib.hid (HEND.out _ _ F1.out q3)
  clear q3 hnote HEND Q2
  go_wp2_with fail
  go_ret
  exact ⟨rfl, Q3.out⟩
set_option maxRecDepth 100000 in
set_option maxHeartbeats 8000000 in
theorem q_do_no (h : QAt w lab z pv q n) (kind who num : Int) (e : En) (hpm : q.permits kind who num = false) : Calls Try.prog 24 #[.pointer (some ⟨z, 0, none⟩), actV kind who num e] w (DoTo w lab z pv q n kind who num e) := by
  have hX : q.actX kind who num e = 1 := by unfold Qs.actX; simp [hpm]
  have hA : q.act kind who num e = q := by unfold Qs.act; simp [hX]
  obtain ⟨W0, hW0⟩ : ∃ W0, W0 = w.alloc (.cells (actC kind who num e).toArray TAct) := ⟨_, rfl⟩
  have hf0 : Fr No w W0 := by rw [hW0]; exact fr_alloc _ _
  obtain ⟨g, hg⟩ : ∃ g, g = w.heap.size := ⟨_, rfl⟩
  have hb0 : Blk W0 g TAct (actC kind who num e).toArray := by rw [hg, hW0]; exact Blk.new _ _ _
  have hper := q_permitted (h.frNo hf0) kind who num e
  rw [hpm] at hper
  have hac := fun W (hf : Fr No W0 W) => act_cells (hb0.fr hf (fun h => h))
  have hend := fun W' (hf : Fr No w W') => ((h.more (m := n + 700000) (by omega)).still hf)
  obtain ⟨c0, c1, c2, c3, c4, c5, c6, c7, c8, c9, c10, c11⟩ := hac W0 (Fr.refl _ _)
  have hgl := hb0.lt
  unfold DoTo
  rw [hX, hA]
  have FF := Lib.hid hf0
  obtain ⟨ek, ti, te, ce, ot, ep, fr, un, nn⟩ := e
  simp only [actC] at hW0
  simp only at c3 c4 c5 c6 c7 c8 c9 c10 c11
  unfold actV at hper ⊢
  clear h hpm hX hA hb0 hf0 hac
  have HPER := Lib.hid hper
  have HEND := Lib.hid hend
  have HW0 := Lib.hid hW0
  have HG := Lib.hid hg
  clear hper hend hW0 hg
  go_enter Try.func24, Try.ntmps24
  go_upto_region 1 with fail
  rw [← HW0.out, ← HG.out]
  go_wp2_with fail
  refine HPER.out.mono ?_
  rintro e w1 ⟨rfl, f1⟩
  have Q3 := Lib.hid (HEND.out _ (FF.out.transNo f1))
  clear c0 c1 c2 c3 c4 c5 c6 c7 c8 c9 c10 c11 f1 HPER HEND
  go_wp2_with fail
  go_ret
  exact ⟨rfl, Q3.out⟩
end
end Go.Proofs.Ytokblidfekbeeaa
/- The program's quorum: a message is delivered, or repeated. -/
namespace Go.Proofs.Ytokblidfekbeeaa
open Go.ChangeShapes Go.WideShapes Go.ChangeAt Go.RowKit
set_option linter.unusedVariables false
section
variable {w w' : World} {lab lab' : Nat → Option Nat} {z n m : Nat} {pv : Nat → Nat} {q q1 : Qs} {F : Nat → Prop}
set_option maxRecDepth 100000 in
set_option maxHeartbeats 8000000 in
theorem q_do_4 (h : QAt w lab z pv q n) (who : Int) (i : Nat) (hi : i < q.net.length) (e : En) (hsz : n + 800000 ≤ 140737488355328) : Calls Try.prog 24 #[.pointer (some ⟨z, 0, none⟩), actV 4 who i e] w (DoTo w lab z pv q n 4 who i e) := by
  have hpm : q.permits 4 who (i : Int) = true := by unfold Qs.permits; simp; omega
  have hX : q.actX 4 who (i : Int) e = 0 := by unfold Qs.actX; simp [hpm]
  obtain ⟨m, hm⟩ : ∃ m, q.net[i]? = some m := ⟨_, List.getElem?_eq_getElem hi⟩
  have hat : q.at_ (i : Int) = m := by unfold Qs.at_; rw [Int.toNat_natCast, hm]; rfl
  have hmto := h.ok.msgs m (List.mem_of_getElem? hm)
  obtain ⟨t, ht, hto⟩ := hmto.to_
  have hA : q.act 4 who (i : Int) e = ((q.remove i).put t ((q.rs t).handle m)).note := by
    have e1 : q.act 4 who (i : Int) e = ((q.remove i).give m).note := by unfold Qs.act; simp [hX, hat]
    rw [e1]
    unfold Qs.give
    rw [hto, Int.toNat_natCast]
    rfl
  obtain ⟨W0, hW0⟩ : ∃ W0, W0 = w.alloc (.cells (actC 4 who (i : Int) e).toArray TAct) := ⟨_, rfl⟩
  have hf0 : Fr No w W0 := by rw [hW0]; exact fr_alloc _ _
  obtain ⟨g, hg⟩ : ∃ g, g = w.heap.size := ⟨_, rfl⟩
  have hb0 : Blk W0 g TAct (actC 4 who (i : Int) e).toArray := by rw [hg, hW0]; exact Blk.new _ _ _
  have hper := q_permitted (h.frNo hf0) 4 who (i : Int) e
  rw [hpm] at hper
  have hac := fun W (hf : Fr No W0 W) => act_cells (hb0.fr hf (fun h => h))
  obtain ⟨Ar, cr', NV, DV, vs, m1, m2, m3, m4⟩ := h.mem
  obtain ⟨An, cn, rfl, -⟩ := m3.own.form
  have hcn := m3.own.cap
  have hn256 := h.ok.net
  obtain ⟨bl, x, rfl, hbl, -, -, hxe, e0, e1, e2, e3, e4, e5, e6, e7, e8⟩ := m3.at_ hm
  obtain ⟨Ax, cx, rfl⟩ : ∃ Ax cx, x = .slice Ax m.es.length cx := (let ⟨A, c, e, _⟩ := hxe; ⟨A, c, e⟩)
  have hcb := fun V (hf : Fr No W0 V) (o : Nat) => (hf0.transNo hf).cell (p := ⟨bl, o, none⟩) hbl fun h => h
  obtain ⟨kd, mf, mto, mt, ix, pr, cm, ok, es⟩ := m
  simp only at hto e0 e1 e2 e3 e4 e5 e6 e7 e8 hxe
  subst hto
  have hsa := fun V (hf : Fr No W0 V) => (⟨((m1.fr hf0 (fun h => h)).fr hf (fun h => h)).cell 1, (let ⟨_, _, a2, _⟩ := hac V hf; a2), (hcb V hf _).trans e0, (hcb V hf _).trans e1, (hcb V hf _).trans e2, (hcb V hf _).trans e3, (hcb V hf _).trans e4, (hcb V hf _).trans e5, (hcb V hf _).trans e6, (hcb V hf _).trans e7, (hcb V hf _).trans e8⟩ : V.cell? ⟨z, 1, none⟩ = some (.slice (some ⟨bl, 0, none⟩) q.net.length cn) ∧ V.cell? ⟨g, 2, none⟩ = some (.int .i64 i) ∧ V.cell? ⟨bl, i * 9, none⟩ = some (.int .i64 kd) ∧ V.cell? ⟨bl, i * 9 + 1, none⟩ = some (.int .i64 mf) ∧ V.cell? ⟨bl, i * 9 + 2, none⟩ = some (.int .i64 (t : Int)) ∧ V.cell? ⟨bl, i * 9 + 3, none⟩ = some (.int .i64 mt) ∧ V.cell? ⟨bl, i * 9 + 4, none⟩ = some (.int .i64 ix) ∧ V.cell? ⟨bl, i * 9 + 5, none⟩ = some (.int .i64 pr) ∧ V.cell? ⟨bl, i * 9 + 6, none⟩ = some (.int .i64 cm) ∧ V.cell? ⟨bl, i * 9 + 7, none⟩ = some (.bool ok) ∧ V.cell? ⟨bl, i * 9 + 8, none⟩ = some (.slice Ax es.length cx))
  have h5 := h.ok.five
  have hlen : es.length ≤ 4096 := hmto.few
  have hesok := hmto.es
  have hgo := fun W2 w3 g7 (hf : Fr No w W2) (hg7 : lab g7 = none) (hbm : Blk W2 g7 TMs (Ms.cells ⟨kd, mf, t, mt, ix, pr, cm, ok, es⟩ (.slice Ax es.length cx)).toArray) (hq3 : QAt w3 lab z pv (q.remove i) n) (f3 : Fr (fun b => lab b = some 0 ∨ lab b = some 2) W2 w3) => (by
    obtain ⟨br, cr, hnc, hcm, hb1, hbl, r0, r1⟩ := hq3.row1
    have hzw := hq3.lt z 0 hq3.z0
    have hbm3 : Blk w3 g7 TMs (Ms.cells ⟨kd, mf, t, mt, ix, pr, cm, ok, es⟩ (.slice Ax es.length cx)).toArray := hbm.fr f3 fun hh => by rw [hg7] at hh; simp at hh
    have hE : Ent w3 (part lab 3) (.slice Ax es.length cx) es := (hxe.frNo hf).fr f3 fun b hb hh => by
      rcases hh with hh | hh
      · exact part_ne (show (3 : Nat) ≠ 0 by omega) b hb hh
      · exact part_ne (show (3 : Nat) ≠ 2 by omega) b hb hh
    have ht3 : t < (q.remove i).n := ht
    obtain ⟨o1, o2, o3⟩ := hq3.ok.each t ht3
    have hgk := fun V (hk : Keeps w3 lab z V) (o : Nat) => hk.1 ⟨g7, o, none⟩ hbm3.lt (.inl hg7)
    refine ⟨br, cr, hnc, hcm, fun V hk => ⟨hk.2.trans r0, (hgk V hk 0).trans (hbm3.cell 0), (hgk V hk 1).trans (hbm3.cell 1), (hgk V hk 2).trans (hbm3.cell 2), (hgk V hk 3).trans (hbm3.cell 3), (hgk V hk 4).trans (hbm3.cell 4), (hgk V hk 5).trans (hbm3.cell 5), (hgk V hk 6).trans (hbm3.cell 6), (hgk V hk 7).trans (hbm3.cell 7), (hgk V hk 8).trans (hbm3.cell 8), (hk.1 ⟨br, t, none⟩ hbl (.inr hb1)).trans (r1 t ht3)⟩, ?_, fun W' x hc => ?_⟩
    · exact p_handle (hq3.reps t ht3) ⟨kd, mf, t, mt, ix, pr, cm, ok, es⟩ Ax cx hE (part_ne (by omega)) hesok (by show es.length ≤ 1000000; omega) (by omega)
    · exact hq3.sent (m := n + 700000) ht3 (x := (q.rs t).handle ⟨kd, mf, t, mt, ix, pr, cm, ok, es⟩) (e := x) (w' := W') (by omega) hc (handle_n _ _).1 (handle_n _ _).2 (by have := o1.handle_to (m := ⟨kd, mf, t, mt, ix, pr, cm, ok, es⟩); rw [o3] at this; exact this) o1.handle_len : ∃ br cr, q.n ≤ cr ∧ cr ≤ maxLen ∧ (∀ V, Keeps w3 lab z V → V.cell? ⟨z, 0, none⟩ = some (.slice (some ⟨br, 0, none⟩) q.n cr) ∧ V.cell? ⟨g7, 0, none⟩ = some (.int .i64 kd) ∧ V.cell? ⟨g7, 1, none⟩ = some (.int .i64 mf) ∧ V.cell? ⟨g7, 2, none⟩ = some (.int .i64 (t : Int)) ∧ V.cell? ⟨g7, 3, none⟩ = some (.int .i64 mt) ∧ V.cell? ⟨g7, 4, none⟩ = some (.int .i64 ix) ∧ V.cell? ⟨g7, 5, none⟩ = some (.int .i64 pr) ∧ V.cell? ⟨g7, 6, none⟩ = some (.int .i64 cm) ∧ V.cell? ⟨g7, 7, none⟩ = some (.bool ok) ∧ V.cell? ⟨g7, 8, none⟩ = some (.slice Ax es.length cx) ∧ V.cell? ⟨br, t, none⟩ = some (.pointer (some ⟨pv t, 0, none⟩))) ∧ Calls Try.prog 41 #[.pointer (some ⟨pv t, 0, none⟩), Ms.v ⟨kd, mf, t, mt, ix, pr, cm, ok, es⟩ (.slice Ax es.length cx)] w3 (CallTo w3 (part lab (10 + t)) (pv t) ((q.rs t).handle ⟨kd, mf, t, mt, ix, pr, cm, ok, es⟩) (n + 700000)) ∧ ∀ W' x, CallTo w3 (part lab (10 + t)) (pv t) ((q.rs t).handle ⟨kd, mf, t, mt, ix, pr, cm, ok, es⟩) (n + 700000) x W' →
      ∃ A c, x = .returned (.slice A ((q.rs t).handle ⟨kd, mf, t, mt, ix, pr, cm, ok, es⟩).2.length c) ∧ Keeps w3 lab z W' ∧ Calls Try.prog 40 #[.pointer (some ⟨z, 0, none⟩), .slice A ((q.rs t).handle ⟨kd, mf, t, mt, ix, pr, cm, ok, es⟩).2.length c] W' fun e2 w2 => e2 = .returned (.tuple #[]) ∧ Keeps w3 lab z w2 ∧ QTo w3 lab z pv ((q.remove i).put t ((q.rs t).handle ⟨kd, mf, t, mt, ix, pr, cm, ok, es⟩)) (n + 700000) w2)
  have hrem := fun W (hf : Fr No w W) => q_remove (h.frNo hf) i hi
  have hsame := fun W (hf : Fr No w W) => h.frNo hf
  have hend := fun W W2 W' qq (hf : Fr No w W) (f3 : Fr (fun b => lab b = some 0 ∨ lab b = some 2) W W2) (hq : QTo W2 lab z pv qq (n + 700000) W') => QTo.after (n := n + 700000) hf h.lt (hq.from (fun _ _ => rfl) (f3.mono fun b hb => by rcases hb with hb | hb <;> rw [hb] <;> simp))
  have hfresh : ∀ b, w.heap.size ≤ b → lab b = none := fun b hb => by
    cases hlg : lab b with
    | none => rfl
    | some j => exact absurd (h.lt b j hlg) (by omega)
  have ht2 : (t : Int) < (q.n : Int) := by omega
  have hi2 : (i : Int) < (q.net.length : Int) := by omega
  have hzl : z < W0.heap.size := Nat.lt_of_lt_of_le (h.lt z 0 h.z0) hf0.size
  obtain ⟨c0, c1, c2, c3, c4, c5, c6, c7, c8, c9, c10, c11⟩ := hac W0 (Fr.refl _ _)
  have hgl := hb0.lt
  unfold maxLen at hcn
  unfold DoTo
  rw [hX, hA]
  have FF := Lib.hid hf0
  generalize (q.rs t).handle ⟨kd, mf, t, mt, ix, pr, cm, ok, es⟩ = HH at *
  obtain ⟨ek, ti, te, ce, ot, ep, fr, un, nn⟩ := e
  simp only [actC] at hW0
  simp only at c3 c4 c5 c6 c7 c8 c9 c10 c11
  unfold actV at hper ⊢
  unfold Ms.v at hgo
  clear h hpm hX hA hb0 hf0 m1 m2 m3 m4 e0 e1 e2 e3 e4 e5 e6 e7 e8 hxe hm hat hmto hesok hcb
  have HPER := Lib.hid hper
  have HAC := Lib.hid hac
  have HSA := Lib.hid hsa
  have HGO := Lib.hid hgo
  have HREM := Lib.hid hrem
  have HSAME := Lib.hid hsame
  have HEND := Lib.hid hend
  have HW0 := Lib.hid hW0
  have HG := Lib.hid hg
  have HFRESH := Lib.hid hfresh
  clear hper hac hsa hgo hrem hsame hend hW0 hg hfresh
  go_enter Try.func24, Try.ntmps24
  go_upto_region 1 with fail
  rw [← HW0.out, ← HG.out]
  go_wp2_with fail
  refine HPER.out.mono ?_
  rintro e w1 ⟨rfl, f1⟩
  obtain ⟨d0, d1, d2, -⟩ := HAC.out w1 f1
  have F1 := Lib.hid (FF.out.transNo f1)
  have hd := HSA.out w1.drew f1.drew
  have HKT := Lib.hid fun V (hf : Fr No w1 V) => HSA.out V (f1.transNo hf)
  have hz1 : z < w1.heap.size := Nat.lt_of_lt_of_le hzl f1.size
  have hg1 : g < w1.heap.size := Nat.lt_of_lt_of_le hgl f1.size
  have hac1 := Lib.hid fun W (hf : Fr No w1 W) => HAC.out W (f1.transNo hf)
  clear c0 c1 c2 c3 c4 c5 c6 c7 c8 c9 c10 c11 f1 HSA HAC HPER
  go_wp2_with fail
  go_region_held3 (fun V => V.cell? ⟨z, 1, none⟩ = some (.slice (some ⟨bl, 0, none⟩) q.net.length cn) ∧ V.cell? ⟨g, 2, none⟩ = some (.int .i64 i) ∧ V.cell? ⟨bl, i * 9, none⟩ = some (.int .i64 kd) ∧ V.cell? ⟨bl, i * 9 + 1, none⟩ = some (.int .i64 mf) ∧ V.cell? ⟨bl, i * 9 + 2, none⟩ = some (.int .i64 (t : Int)) ∧ V.cell? ⟨bl, i * 9 + 3, none⟩ = some (.int .i64 mt) ∧ V.cell? ⟨bl, i * 9 + 4, none⟩ = some (.int .i64 ix) ∧ V.cell? ⟨bl, i * 9 + 5, none⟩ = some (.int .i64 pr) ∧ V.cell? ⟨bl, i * 9 + 6, none⟩ = some (.int .i64 cm) ∧ V.cell? ⟨bl, i * 9 + 7, none⟩ = some (.bool ok) ∧ V.cell? ⟨bl, i * 9 + 8, none⟩ = some (.slice Ax es.length cx)) (first | exact hd | exact HKT.out _ (by repeat (first | assumption | exact Fr.refl _ _ | refine Fr.alloc ?_ _ | refine Fr.drew ?_ | refine Fr.drewN ?_ _))) (first | fail)
  have hsz1 := F1.out.size
  obtain ⟨W2, hW2⟩ : ∃ W2, W2 = (w1.alloc (.cells #[.int .i64 kd, .int .i64 mf, .int .i64 (t : Int), .int .i64 mt, .int .i64 ix, .int .i64 pr, .int .i64 cm, .bool ok, .slice Ax es.length cx] TMs)).drew := ⟨_, rfl⟩
  obtain ⟨g7, hg7⟩ : ∃ g7, g7 = w1.heap.size := ⟨_, rfl⟩
  rw [← hW2, ← hg7]
  have f12 : Fr No w1 W2 := by rw [hW2]; exact (fr_alloc _ _).drew
  have F2 := Lib.hid (F1.out.transNo f12)
  have hbm : Blk W2 g7 TMs (Ms.cells ⟨kd, mf, t, mt, ix, pr, cm, ok, es⟩ (.slice Ax es.length cx)).toArray := by rw [hW2, hg7]; exact (Blk.new _ _ _).fr (Fr.refl No _).drew fun h => h
  have hl7 := Lib.hid (HFRESH.out g7 (by rw [hg7]; exact hsz1))
  obtain ⟨d0, d1, d2, -⟩ := hac1.out W2 f12
  have hz2 : z < W2.heap.size := Nat.lt_of_lt_of_le hz1 f12.size
  have hg2 : g < W2.heap.size := Nat.lt_of_lt_of_le hg1 f12.size
  have h72 := hbm.lt
  have BM := Lib.hid hbm
  clear hd HKT hac1 hW2 hg7 hbm f12 HFRESH
  go_wp2_with fail
  refine (HREM.out W2 F2.out).mono ?_
  rintro e w3 ⟨rfl, q1, f3⟩
  have Q3 := Lib.hid (show QAt w3.drew lab z pv (q.remove i) n ∧ Fr (fun b => lab b = some 0 ∨ lab b = some 2) W2 w3.drew from ⟨q1.frNo (Fr.refl _ _).drew, f3.drew⟩)
  clear q1 f3
  obtain ⟨br, cr, hnc, hcm, hks, hcall, hsent⟩ := HGO.out W2 w3.drew g7 F2.out hl7.out BM.out Q3.out.1 Q3.out.2
  have HE := Lib.hid fun W' qq => HEND.out W2 w3.drew W' qq F2.out Q3.out.2
  have hd := hks w3.drew ⟨fun _ _ _ => rfl, rfl⟩
  have hz3 := Nat.lt_of_lt_of_le hz2 Q3.out.2.size
  have hg3 := Nat.lt_of_lt_of_le hg2 Q3.out.2.size
  have h73 := Nat.lt_of_lt_of_le h72 Q3.out.2.size
  unfold maxLen at hcm
  clear HGO HEND HREM HSAME d0 d1 d2 hz2 hg2 h72
  have HKS := Lib.hid hks
  have HCALL := Lib.hid hcall
  have HSENT := Lib.hid hsent
  clear hks hcall hsent
  go_wp2_with fail
  go_region_held3 (fun V => V.cell? ⟨z, 0, none⟩ = some (.slice (some ⟨br, 0, none⟩) q.n cr) ∧ V.cell? ⟨g7, 0, none⟩ = some (.int .i64 kd) ∧ V.cell? ⟨g7, 1, none⟩ = some (.int .i64 mf) ∧ V.cell? ⟨g7, 2, none⟩ = some (.int .i64 (t : Int)) ∧ V.cell? ⟨g7, 3, none⟩ = some (.int .i64 mt) ∧ V.cell? ⟨g7, 4, none⟩ = some (.int .i64 ix) ∧ V.cell? ⟨g7, 5, none⟩ = some (.int .i64 pr) ∧ V.cell? ⟨g7, 6, none⟩ = some (.int .i64 cm) ∧ V.cell? ⟨g7, 7, none⟩ = some (.bool ok) ∧ V.cell? ⟨g7, 8, none⟩ = some (.slice Ax es.length cx) ∧ V.cell? ⟨br, t, none⟩ = some (.pointer (some ⟨pv t, 0, none⟩))) (first | exact hd | exact k1 | exact k2) (first
    | (go_at_call 41; refine HCALL.out.mono ?_; rintro e v1 hc; obtain ⟨A1, c1', rfl, k1', hs⟩ := HSENT.out _ _ hc; have k1 := HKS.out _ k1'; have HS2 := Lib.hid hs; clear hc k1' hs)
    | (go_at_call 40; refine HS2.out.mono ?_; rintro e v2 ⟨rfl, k2', q2⟩; have k2 := HKS.out _ k2'; have Q2 := Lib.hid q2; clear k2' q2))
  have hnote := Lib.hid (QTo.noted Q2.out)
  clear hd HKS k2 HCALL HSENT HS2
  go_wp2_with fail
  refine hnote.out.mono ?_
  rintro e v3 ⟨rfl, q3⟩
  have QE := Lib.hid (HE.out _ _ q3)
  clear q3 hnote HE Q2
  go_wp2_with fail
  go_ret
  exact ⟨rfl, QE.out⟩
set_option maxRecDepth 100000 in
set_option maxHeartbeats 8000000 in
theorem q_do_5 (h : QAt w lab z pv q n) (who : Int) (i : Nat) (hi : i < q.net.length) (e : En) (hsz : n + 800000 ≤ 140737488355328) : Calls Try.prog 24 #[.pointer (some ⟨z, 0, none⟩), actV 5 who i e] w (DoTo w lab z pv q n 5 who i e) := by
  have hpm : q.permits 5 who (i : Int) = true := by unfold Qs.permits; simp; omega
  have hX : q.actX 5 who (i : Int) e = 0 := by unfold Qs.actX; simp [hpm]
  obtain ⟨m, hm⟩ : ∃ m, q.net[i]? = some m := ⟨_, List.getElem?_eq_getElem hi⟩
  have hat : q.at_ (i : Int) = m := by unfold Qs.at_; rw [Int.toNat_natCast, hm]; rfl
  have hmto := h.ok.msgs m (List.mem_of_getElem? hm)
  obtain ⟨t, ht, hto⟩ := hmto.to_
  have hA : q.act 5 who (i : Int) e = (q.put t ((q.rs t).handle m)).note := by
    have e1 : q.act 5 who (i : Int) e = (q.give m).note := by unfold Qs.act; simp [hX, hat]
    rw [e1]
    unfold Qs.give
    rw [hto, Int.toNat_natCast]
  obtain ⟨W0, hW0⟩ : ∃ W0, W0 = w.alloc (.cells (actC 5 who (i : Int) e).toArray TAct) := ⟨_, rfl⟩
  have hf0 : Fr No w W0 := by rw [hW0]; exact fr_alloc _ _
  obtain ⟨g, hg⟩ : ∃ g, g = w.heap.size := ⟨_, rfl⟩
  have hb0 : Blk W0 g TAct (actC 5 who (i : Int) e).toArray := by rw [hg, hW0]; exact Blk.new _ _ _
  have hper := q_permitted (h.frNo hf0) 5 who (i : Int) e
  rw [hpm] at hper
  have hac := fun W (hf : Fr No W0 W) => act_cells (hb0.fr hf (fun h => h))
  obtain ⟨Ar, cr', NV, DV, vs, m1, m2, m3, m4⟩ := h.mem
  obtain ⟨An, cn, rfl, -⟩ := m3.own.form
  have hcn := m3.own.cap
  have hn256 := h.ok.net
  obtain ⟨bl, x, rfl, hbl, -, -, hxe, e0, e1, e2, e3, e4, e5, e6, e7, e8⟩ := m3.at_ hm
  obtain ⟨Ax, cx, rfl⟩ : ∃ Ax cx, x = .slice Ax m.es.length cx := (let ⟨A, c, e, _⟩ := hxe; ⟨A, c, e⟩)
  have hcb := fun V (hf : Fr No W0 V) (o : Nat) => (hf0.transNo hf).cell (p := ⟨bl, o, none⟩) hbl fun h => h
  obtain ⟨kd, mf, mto, mt, ix, pr, cm, ok, es⟩ := m
  simp only at hto e0 e1 e2 e3 e4 e5 e6 e7 e8 hxe
  subst hto
  have hsa := fun V (hf : Fr No W0 V) => (⟨((m1.fr hf0 (fun h => h)).fr hf (fun h => h)).cell 1, (let ⟨_, _, a2, _⟩ := hac V hf; a2), (hcb V hf _).trans e0, (hcb V hf _).trans e1, (hcb V hf _).trans e2, (hcb V hf _).trans e3, (hcb V hf _).trans e4, (hcb V hf _).trans e5, (hcb V hf _).trans e6, (hcb V hf _).trans e7, (hcb V hf _).trans e8⟩ : V.cell? ⟨z, 1, none⟩ = some (.slice (some ⟨bl, 0, none⟩) q.net.length cn) ∧ V.cell? ⟨g, 2, none⟩ = some (.int .i64 i) ∧ V.cell? ⟨bl, i * 9, none⟩ = some (.int .i64 kd) ∧ V.cell? ⟨bl, i * 9 + 1, none⟩ = some (.int .i64 mf) ∧ V.cell? ⟨bl, i * 9 + 2, none⟩ = some (.int .i64 (t : Int)) ∧ V.cell? ⟨bl, i * 9 + 3, none⟩ = some (.int .i64 mt) ∧ V.cell? ⟨bl, i * 9 + 4, none⟩ = some (.int .i64 ix) ∧ V.cell? ⟨bl, i * 9 + 5, none⟩ = some (.int .i64 pr) ∧ V.cell? ⟨bl, i * 9 + 6, none⟩ = some (.int .i64 cm) ∧ V.cell? ⟨bl, i * 9 + 7, none⟩ = some (.bool ok) ∧ V.cell? ⟨bl, i * 9 + 8, none⟩ = some (.slice Ax es.length cx))
  have h5 := h.ok.five
  have hlen : es.length ≤ 4096 := hmto.few
  have hesok := hmto.es
  have hgo := fun W2 w3 g7 (hf : Fr No w W2) (hg7 : lab g7 = none) (hbm : Blk W2 g7 TMs (Ms.cells ⟨kd, mf, t, mt, ix, pr, cm, ok, es⟩ (.slice Ax es.length cx)).toArray) (hq3 : QAt w3 lab z pv q n) (f3 : Fr (fun b => lab b = some 0 ∨ lab b = some 2) W2 w3) => (by
    obtain ⟨br, cr, hnc, hcm, hb1, hbl, r0, r1⟩ := hq3.row1
    have hzw := hq3.lt z 0 hq3.z0
    have hbm3 : Blk w3 g7 TMs (Ms.cells ⟨kd, mf, t, mt, ix, pr, cm, ok, es⟩ (.slice Ax es.length cx)).toArray := hbm.fr f3 fun hh => by rw [hg7] at hh; simp at hh
    have hE : Ent w3 (part lab 3) (.slice Ax es.length cx) es := (hxe.frNo hf).fr f3 fun b hb hh => by
      rcases hh with hh | hh
      · exact part_ne (show (3 : Nat) ≠ 0 by omega) b hb hh
      · exact part_ne (show (3 : Nat) ≠ 2 by omega) b hb hh
    have ht3 : t < q.n := ht
    obtain ⟨o1, o2, o3⟩ := hq3.ok.each t ht3
    have hgk := fun V (hk : Keeps w3 lab z V) (o : Nat) => hk.1 ⟨g7, o, none⟩ hbm3.lt (.inl hg7)
    refine ⟨br, cr, hnc, hcm, fun V hk => ⟨hk.2.trans r0, (hgk V hk 0).trans (hbm3.cell 0), (hgk V hk 1).trans (hbm3.cell 1), (hgk V hk 2).trans (hbm3.cell 2), (hgk V hk 3).trans (hbm3.cell 3), (hgk V hk 4).trans (hbm3.cell 4), (hgk V hk 5).trans (hbm3.cell 5), (hgk V hk 6).trans (hbm3.cell 6), (hgk V hk 7).trans (hbm3.cell 7), (hgk V hk 8).trans (hbm3.cell 8), (hk.1 ⟨br, t, none⟩ hbl (.inr hb1)).trans (r1 t ht3)⟩, ?_, fun W' x hc => ?_⟩
    · exact p_handle (hq3.reps t ht3) ⟨kd, mf, t, mt, ix, pr, cm, ok, es⟩ Ax cx hE (part_ne (by omega)) hesok (by show es.length ≤ 1000000; omega) (by omega)
    · exact hq3.sent (m := n + 700000) ht3 (x := (q.rs t).handle ⟨kd, mf, t, mt, ix, pr, cm, ok, es⟩) (e := x) (w' := W') (by omega) hc (handle_n _ _).1 (handle_n _ _).2 (by have := o1.handle_to (m := ⟨kd, mf, t, mt, ix, pr, cm, ok, es⟩); rw [o3] at this; exact this) o1.handle_len : ∃ br cr, q.n ≤ cr ∧ cr ≤ maxLen ∧ (∀ V, Keeps w3 lab z V → V.cell? ⟨z, 0, none⟩ = some (.slice (some ⟨br, 0, none⟩) q.n cr) ∧ V.cell? ⟨g7, 0, none⟩ = some (.int .i64 kd) ∧ V.cell? ⟨g7, 1, none⟩ = some (.int .i64 mf) ∧ V.cell? ⟨g7, 2, none⟩ = some (.int .i64 (t : Int)) ∧ V.cell? ⟨g7, 3, none⟩ = some (.int .i64 mt) ∧ V.cell? ⟨g7, 4, none⟩ = some (.int .i64 ix) ∧ V.cell? ⟨g7, 5, none⟩ = some (.int .i64 pr) ∧ V.cell? ⟨g7, 6, none⟩ = some (.int .i64 cm) ∧ V.cell? ⟨g7, 7, none⟩ = some (.bool ok) ∧ V.cell? ⟨g7, 8, none⟩ = some (.slice Ax es.length cx) ∧ V.cell? ⟨br, t, none⟩ = some (.pointer (some ⟨pv t, 0, none⟩))) ∧ Calls Try.prog 41 #[.pointer (some ⟨pv t, 0, none⟩), Ms.v ⟨kd, mf, t, mt, ix, pr, cm, ok, es⟩ (.slice Ax es.length cx)] w3 (CallTo w3 (part lab (10 + t)) (pv t) ((q.rs t).handle ⟨kd, mf, t, mt, ix, pr, cm, ok, es⟩) (n + 700000)) ∧ ∀ W' x, CallTo w3 (part lab (10 + t)) (pv t) ((q.rs t).handle ⟨kd, mf, t, mt, ix, pr, cm, ok, es⟩) (n + 700000) x W' →
      ∃ A c, x = .returned (.slice A ((q.rs t).handle ⟨kd, mf, t, mt, ix, pr, cm, ok, es⟩).2.length c) ∧ Keeps w3 lab z W' ∧ Calls Try.prog 40 #[.pointer (some ⟨z, 0, none⟩), .slice A ((q.rs t).handle ⟨kd, mf, t, mt, ix, pr, cm, ok, es⟩).2.length c] W' fun e2 w2 => e2 = .returned (.tuple #[]) ∧ Keeps w3 lab z w2 ∧ QTo w3 lab z pv (q.put t ((q.rs t).handle ⟨kd, mf, t, mt, ix, pr, cm, ok, es⟩)) (n + 700000) w2)
  have hrem := fun W (hf : Fr No w W) => q_remove (h.frNo hf) i hi
  have hsame := fun W (hf : Fr No w W) => h.frNo hf
  have hend := fun W W2 W' qq (hf : Fr No w W) (f3 : Fr (fun b => lab b = some 0 ∨ lab b = some 2) W W2) (hq : QTo W2 lab z pv qq (n + 700000) W') => QTo.after (n := n + 700000) hf h.lt (hq.from (fun _ _ => rfl) (f3.mono fun b hb => by rcases hb with hb | hb <;> rw [hb] <;> simp))
  have hfresh : ∀ b, w.heap.size ≤ b → lab b = none := fun b hb => by
    cases hlg : lab b with
    | none => rfl
    | some j => exact absurd (h.lt b j hlg) (by omega)
  have ht2 : (t : Int) < (q.n : Int) := by omega
  have hi2 : (i : Int) < (q.net.length : Int) := by omega
  have hzl : z < W0.heap.size := Nat.lt_of_lt_of_le (h.lt z 0 h.z0) hf0.size
  obtain ⟨c0, c1, c2, c3, c4, c5, c6, c7, c8, c9, c10, c11⟩ := hac W0 (Fr.refl _ _)
  have hgl := hb0.lt
  unfold maxLen at hcn
  unfold DoTo
  rw [hX, hA]
  have FF := Lib.hid hf0
  generalize (q.rs t).handle ⟨kd, mf, t, mt, ix, pr, cm, ok, es⟩ = HH at *
  obtain ⟨ek, ti, te, ce, ot, ep, fr, un, nn⟩ := e
  simp only [actC] at hW0
  simp only at c3 c4 c5 c6 c7 c8 c9 c10 c11
  unfold actV at hper ⊢
  unfold Ms.v at hgo
  clear h hpm hX hA hb0 hf0 m1 m2 m3 m4 e0 e1 e2 e3 e4 e5 e6 e7 e8 hxe hm hat hmto hesok hcb
  have HPER := Lib.hid hper
  have HAC := Lib.hid hac
  have HSA := Lib.hid hsa
  have HGO := Lib.hid hgo
  have HREM := Lib.hid hrem
  have HSAME := Lib.hid hsame
  have HEND := Lib.hid hend
  have HW0 := Lib.hid hW0
  have HG := Lib.hid hg
  have HFRESH := Lib.hid hfresh
  clear hper hac hsa hgo hrem hsame hend hW0 hg hfresh
  go_enter Try.func24, Try.ntmps24
  go_upto_region 1 with fail
  rw [← HW0.out, ← HG.out]
  go_wp2_with fail
  refine HPER.out.mono ?_
  rintro e w1 ⟨rfl, f1⟩
  obtain ⟨d0, d1, d2, -⟩ := HAC.out w1 f1
  have F1 := Lib.hid (FF.out.transNo f1)
  have hd := HSA.out w1.drew f1.drew
  have HKT := Lib.hid fun V (hf : Fr No w1 V) => HSA.out V (f1.transNo hf)
  have hz1 : z < w1.heap.size := Nat.lt_of_lt_of_le hzl f1.size
  have hg1 : g < w1.heap.size := Nat.lt_of_lt_of_le hgl f1.size
  have hac1 := Lib.hid fun W (hf : Fr No w1 W) => HAC.out W (f1.transNo hf)
  clear c0 c1 c2 c3 c4 c5 c6 c7 c8 c9 c10 c11 f1 HSA HAC HPER
  go_wp2_with fail
  go_region_held3 (fun V => V.cell? ⟨z, 1, none⟩ = some (.slice (some ⟨bl, 0, none⟩) q.net.length cn) ∧ V.cell? ⟨g, 2, none⟩ = some (.int .i64 i) ∧ V.cell? ⟨bl, i * 9, none⟩ = some (.int .i64 kd) ∧ V.cell? ⟨bl, i * 9 + 1, none⟩ = some (.int .i64 mf) ∧ V.cell? ⟨bl, i * 9 + 2, none⟩ = some (.int .i64 (t : Int)) ∧ V.cell? ⟨bl, i * 9 + 3, none⟩ = some (.int .i64 mt) ∧ V.cell? ⟨bl, i * 9 + 4, none⟩ = some (.int .i64 ix) ∧ V.cell? ⟨bl, i * 9 + 5, none⟩ = some (.int .i64 pr) ∧ V.cell? ⟨bl, i * 9 + 6, none⟩ = some (.int .i64 cm) ∧ V.cell? ⟨bl, i * 9 + 7, none⟩ = some (.bool ok) ∧ V.cell? ⟨bl, i * 9 + 8, none⟩ = some (.slice Ax es.length cx)) (first | exact hd | exact HKT.out _ (by repeat (first | assumption | exact Fr.refl _ _ | refine Fr.alloc ?_ _ | refine Fr.drew ?_ | refine Fr.drewN ?_ _))) (first | fail)
  have hsz1 := F1.out.size
  obtain ⟨W2, hW2⟩ : ∃ W2, W2 = (w1.alloc (.cells #[.int .i64 kd, .int .i64 mf, .int .i64 (t : Int), .int .i64 mt, .int .i64 ix, .int .i64 pr, .int .i64 cm, .bool ok, .slice Ax es.length cx] TMs)).drew := ⟨_, rfl⟩
  obtain ⟨g7, hg7⟩ : ∃ g7, g7 = w1.heap.size := ⟨_, rfl⟩
  rw [← hW2, ← hg7]
  have f12 : Fr No w1 W2 := by rw [hW2]; exact (fr_alloc _ _).drew
  have F2 := Lib.hid (F1.out.transNo f12)
  have hbm : Blk W2 g7 TMs (Ms.cells ⟨kd, mf, t, mt, ix, pr, cm, ok, es⟩ (.slice Ax es.length cx)).toArray := by rw [hW2, hg7]; exact (Blk.new _ _ _).fr (Fr.refl No _).drew fun h => h
  have hl7 := Lib.hid (HFRESH.out g7 (by rw [hg7]; exact hsz1))
  obtain ⟨d0, d1, d2, -⟩ := hac1.out W2 f12
  have hz2 : z < W2.heap.size := Nat.lt_of_lt_of_le hz1 f12.size
  have hg2 : g < W2.heap.size := Nat.lt_of_lt_of_le hg1 f12.size
  have h72 := hbm.lt
  have BM := Lib.hid hbm
  clear hd HKT hac1 hW2 hg7 hbm f12 HFRESH
  obtain ⟨w3, hw3⟩ : ∃ w3, w3 = W2 := ⟨_, rfl⟩
  have Q3 := Lib.hid (show QAt w3.drew lab z pv q n ∧ Fr (fun b => lab b = some 0 ∨ lab b = some 2) W2 w3.drew from by rw [hw3]; exact ⟨HSAME.out _ F2.out.drew, (Fr.refl _ _).drew⟩)
  rw [← hw3]
  clear hw3
  obtain ⟨br, cr, hnc, hcm, hks, hcall, hsent⟩ := HGO.out W2 w3.drew g7 F2.out hl7.out BM.out Q3.out.1 Q3.out.2
  have HE := Lib.hid fun W' qq => HEND.out W2 w3.drew W' qq F2.out Q3.out.2
  have hd := hks w3.drew ⟨fun _ _ _ => rfl, rfl⟩
  have hz3 := Nat.lt_of_lt_of_le hz2 Q3.out.2.size
  have hg3 := Nat.lt_of_lt_of_le hg2 Q3.out.2.size
  have h73 := Nat.lt_of_lt_of_le h72 Q3.out.2.size
  unfold maxLen at hcm
  clear HGO HEND HREM HSAME d0 d1 d2 hz2 hg2 h72
  have HKS := Lib.hid hks
  have HCALL := Lib.hid hcall
  have HSENT := Lib.hid hsent
  clear hks hcall hsent
  go_wp2_with fail
  go_region_held3 (fun V => V.cell? ⟨z, 0, none⟩ = some (.slice (some ⟨br, 0, none⟩) q.n cr) ∧ V.cell? ⟨g7, 0, none⟩ = some (.int .i64 kd) ∧ V.cell? ⟨g7, 1, none⟩ = some (.int .i64 mf) ∧ V.cell? ⟨g7, 2, none⟩ = some (.int .i64 (t : Int)) ∧ V.cell? ⟨g7, 3, none⟩ = some (.int .i64 mt) ∧ V.cell? ⟨g7, 4, none⟩ = some (.int .i64 ix) ∧ V.cell? ⟨g7, 5, none⟩ = some (.int .i64 pr) ∧ V.cell? ⟨g7, 6, none⟩ = some (.int .i64 cm) ∧ V.cell? ⟨g7, 7, none⟩ = some (.bool ok) ∧ V.cell? ⟨g7, 8, none⟩ = some (.slice Ax es.length cx) ∧ V.cell? ⟨br, t, none⟩ = some (.pointer (some ⟨pv t, 0, none⟩))) (first | exact hd | exact k1 | exact k2) (first
    | (go_at_call 41; refine HCALL.out.mono ?_; rintro e v1 hc; obtain ⟨A1, c1', rfl, k1', hs⟩ := HSENT.out _ _ hc; have k1 := HKS.out _ k1'; have HS2 := Lib.hid hs; clear hc k1' hs)
    | (go_at_call 40; refine HS2.out.mono ?_; rintro e v2 ⟨rfl, k2', q2⟩; have k2 := HKS.out _ k2'; have Q2 := Lib.hid q2; clear k2' q2))
  have hnote := Lib.hid (QTo.noted Q2.out)
  clear hd HKS k2 HCALL HSENT HS2
  go_wp2_with fail
  refine hnote.out.mono ?_
  rintro e v3 ⟨rfl, q3⟩
  have QE := Lib.hid (HE.out _ _ q3)
  clear q3 hnote HE Q2
  go_wp2_with fail
  go_ret
  exact ⟨rfl, QE.out⟩
end
end Go.Proofs.Ytokblidfekbeeaa
/- The program's quorum: Flush. -/
namespace Go.Proofs.Ytokblidfekbeeaa
open Go.ChangeShapes Go.WideShapes Go.ChangeAt Go.RowKit
set_option linter.unusedVariables false
theorem and_one_i64 (X : Int) : bits BinOp.and IntKind.i64 X 1 = X % 2 := by
  have e : (BitVec.ofInt 64 X &&& BitVec.ofInt 64 1).toNat = (X % 2 ^ 64).toNat % 2 := by
    rw [BitVec.toNat_and, BitVec.toNat_ofInt, show (BitVec.ofInt 64 1).toNat = 1 from rfl, Nat.and_one_is_mod]
    norm_cast
  show IntKind.i64.wrap ((BitVec.ofInt 64 X &&& BitVec.ofInt 64 1).toNat : Int) = X % 2
  rw [e, IntKind.wrap_i64]
  omega
section
variable {w w' : World} {lab lab' : Nat → Option Nat} {z n m : Nat} {pv : Nat → Nat} {q q1 : Qs} {F : Nat → Prop}
theorem inUp_iff {up : Int} {m : Ms} {f t : Nat} (hf : m.from_ = f) (ht : m.to_ = t) : inUp up m ↔ (up / 2 ^ f) % 2 ≠ 0 ∧ (up / 2 ^ t) % 2 ≠ 0 := by
  have e : ∀ k : Nat, up >>> k = up / 2 ^ k := fun k => by rw [Int.shiftRight_eq_div_pow]; norm_cast
  unfold inUp
  rw [hf, ht, Int.toNat_natCast, Int.toNat_natCast, e f, e t]
  omega
def netLen (w : World) (z : Nat) : Nat := match w.cell? ⟨z, 1, none⟩ with
  | some (.slice _ n _) => n
  | _ => 0
theorem QAt.netLen (h : QAt w lab z pv q n) : netLen w z = q.net.length := by
  obtain ⟨Ar, cr, NV, DV, vs, h1, h2, h3, h4⟩ := h.mem
  obtain ⟨A, c, rfl, -⟩ := h3.own.form
  have c1 := h1.cell 1
  unfold Proofs.Ytokblidfekbeeaa.netLen
  rw [c1]
  rfl
/-- What Flush has done so far. -/
def FlAt (w : World) (lab : Nat → Option Nat) (z : Nat) (pv : Nat → Nat) (q : Qs) (n : Nat) (up : Int) (k : Nat) (W : World) : Prop :=
  ∃ q1 lab1, (∀ q' k', Flushes up q1 k q' k' → Flushes up q 0 q' k') ∧ QAt W lab1 z pv q1 (n + k * 700000) ∧ (∀ b, b < w.heap.size → lab1 b = lab b) ∧ Fr (fun b => lab b ≠ none) w W
theorem FlAt.step {lab1 : Nat → Option Nat} {wr W : World} {q2 : Qs} {up : Int} {k2 : Nat} (hl1 : ∀ b, b < w.heap.size → lab1 b = lab b) (hfr : Fr (fun b => lab b ≠ none) w wr) (hq : QTo wr lab1 z pv q2 (n + k2 * 700000) W)
    (hfl : ∀ q' k', Flushes up q2 k2 q' k' → Flushes up q 0 q' k') : FlAt w lab z pv q n up k2 W ∧ netLen W z = q2.net.length := by
  obtain ⟨lab2, a2, b2, c2⟩ := hq
  refine ⟨⟨q2, lab2, hfl, a2, fun b hb => (b2 b (Nat.lt_of_lt_of_le hb hfr.size)).trans (hl1 b hb), hfr.trans c2 fun b hb => ?_⟩, a2.netLen⟩
  rcases Nat.lt_or_ge b w.heap.size with hl | hl
  · rw [hl1 b hl] at hb
    exact .inl hb
  · exact .inr hl
theorem QTo.net (h : QTo w lab z pv q n w') : q.net.length ≤ 256 := let ⟨_, h, _⟩ := h; h.ok.net
set_option maxRecDepth 100000 in
set_option maxHeartbeats 8000000 in
theorem q_flush (h : QAt w lab z pv q n) (up : Int) (hsz : n + 4000000000 ≤ 140737488355328) : Calls Try.prog 22 #[.pointer (some ⟨z, 0, none⟩), .int .i64 up] w fun e w' => ∃ (k' : Nat) (q' : Qs), e = .returned (.int .i64 k') ∧ k' ≤ 5000 ∧ Flushes up q 0 q' k' ∧ QTo w lab z pv q' (n + 4000000000) w' := by
  have hstart : FlAt w lab z pv q n up 0 w := ⟨q, lab, fun _ _ h => h, by simpa using h, fun _ _ => rfl, Fr.refl _ _⟩
  clear h
  have HSTART := Lib.hid hstart
  clear hstart
  go_enter Try.func22, Try.ntmps22
  go_wp2_with fail
  go_loopw [5] (fun i wr => ∃ k : Nat, k ≤ 5000 ∧ i = .int .i64 k ∧ FlAt w lab z pv q n up k wr) (fun i wr => (5000 - (intOf i).toNat) * 300 + netLen wr z)
  case atStart => exact ⟨0, Nat.zero_le _, rfl, HSTART.out⟩
  case round =>
    obtain ⟨k, hk, rfl, Q, lab1, hfl, hq, hl1, hfr⟩ := hrel
    have hnl := hq.netLen
    have hn256 := hq.ok.net
    obtain ⟨Ar, cr', NV, DV, vs, m1, m2, m3, m4⟩ := hq.mem
    obtain ⟨An, cn, rfl, -⟩ := m3.own.form
    have z1 : wr.cell? ⟨z, 1, none⟩ = some (.slice An Q.net.length cn) := m1.cell 1
    have hzw := hq.lt z 0 hq.z0
    by_cases hlt : 0 < Q.net.length ∧ k < 5000
    · obtain ⟨l0, k5⟩ := hlt
      have b0 : decide (0 < Q.net.length) = true := by simpa using l0
      have b1 : decide ((0 : Int) < (Q.net.length : Int)) = true := by simp; omega
      have b2 : decide ((k : Int) < 5000) = true := by simp; omega
      have hi2 : (0 : Int) < (Q.net.length : Int) := by omega
      obtain ⟨m, hm⟩ : ∃ m, Q.net[0]? = some m := ⟨_, List.getElem?_eq_getElem l0⟩
      obtain ⟨ml, hml⟩ : ∃ l, Q.net = m :: l := by
        match hqn : Q.net with
        | [] => rw [hqn] at l0; simp at l0
        | a :: l => rw [hqn] at hm; simp at hm; exact ⟨l, by rw [hm]⟩
      obtain ⟨bl, x, rfl, hbl, -, -, hxe, e0, e1, e2, e3, e4, e5, e6, e7, e8⟩ := m3.at_ hm
      have hmto := hq.ok.msgs m (List.mem_of_getElem? hm)
      obtain ⟨t, ht, hto⟩ := hmto.to_
      obtain ⟨f, hf5, hfo⟩ := hmto.from_
      have hiff := inUp_iff (up := up) hfo hto
      have h5 := hq.ok.five
      obtain ⟨Ax, cx, rfl⟩ : ∃ Ax cx, x = .slice Ax m.es.length cx := (let ⟨A, c, e, _⟩ := hxe; ⟨A, c, e⟩)
      have hskip : ¬ inUp up m → ∀ W W2, Fr No wr W → QAt W2 lab1 z pv (Q.remove 0) (n + k * 700000) → Fr (fun b => lab1 b = some 0 ∨ lab1 b = some 2) W W2 → FlAt w lab z pv q n up k W2 ∧ netLen W2 z = (Q.remove 0).net.length := fun hno W W2 hf h2 f2 =>
        FlAt.step hl1 hfr (QTo.after hf hq.lt ⟨lab1, h2, fun _ _ => rfl, f2.mono fun b hb => by rcases hb with hb | hb <;> rw [hb] <;> simp⟩) fun q' k' hh => hfl q' k' (.skip Q k m ml q' k' k5 hml hno hh)
      have hlen := hmto.few
      have hesok := hmto.es
      have hgive : inUp up m → ∀ W W2 W3, Fr No wr W → Fr (fun b => lab1 b = some 0 ∨ lab1 b = some 2) W W2 → QTo W2 lab1 z pv ((Q.remove 0).put t ((Q.rs t).handle m)).note (n + k * 700000 + 700000) W3 → FlAt w lab z pv q n up (k + 1) W3 ∧ netLen W3 z ≤ 256 := fun hyes W W2 W3 hf f2 h3 => by
        have hg : ((Q.remove 0).give m).note = ((Q.remove 0).put t ((Q.rs t).handle m)).note := by
          unfold Qs.give
          rw [hto, Int.toNat_natCast]
          rfl
        have h4 : QTo wr lab1 z pv ((Q.remove 0).put t ((Q.rs t).handle m)).note (n + (k + 1) * 700000) W3 := (QTo.after hf hq.lt (h3.from (fun _ _ => rfl) (f2.mono fun b hb => by rcases hb with hb | hb <;> rw [hb] <;> simp))).more (by omega)
        have h256 := h4.net
        obtain ⟨s1, s2⟩ := FlAt.step (up := up) (q := q) hl1 hfr h4 fun q' k' hh => hfl q' k' (.give Q k m ml q' k' k5 hml hyes (by rw [hg]; exact hh))
        exact ⟨s1, by rw [s2]; exact h256⟩
      obtain ⟨kd, mf, mto, mt, ix, pr, cm, ok, es⟩ := m
      simp only at hto hfo e0 e1 e2 e3 e4 e5 e6 e7 e8 hxe hlen
      subst hto hfo
      simp only [Nat.zero_mul, Nat.zero_add] at e0 e1 e2 e3 e4 e5 e6 e7 e8
      have hrem := fun W (hf : Fr No wr W) => q_remove (hq.frNo hf) 0 l0
      have hgo := fun W2 w3 g7 (hf : Fr No wr W2) (hg7 : lab1 g7 = none) (hbm : Blk W2 g7 TMs (Ms.cells ⟨kd, (f : Int), (t : Int), mt, ix, pr, cm, ok, es⟩ (.slice Ax es.length cx)).toArray) (hq3 : QAt w3 lab1 z pv (Q.remove 0) (n + k * 700000)) (f3 : Fr (fun b => lab1 b = some 0 ∨ lab1 b = some 2) W2 w3) => (by
        obtain ⟨br, cr, hnc, hcm, hb1, hbl, r0, r1⟩ := hq3.row1
        have hbm3 : Blk w3 g7 TMs (Ms.cells ⟨kd, (f : Int), (t : Int), mt, ix, pr, cm, ok, es⟩ (.slice Ax es.length cx)).toArray := hbm.fr f3 fun hh => by rw [hg7] at hh; simp at hh
        have hE : Ent w3 (part lab1 3) (.slice Ax es.length cx) es := (hxe.frNo hf).fr f3 fun b hb hh => by
          rcases hh with hh | hh
          · exact part_ne (show (3 : Nat) ≠ 0 by omega) b hb hh
          · exact part_ne (show (3 : Nat) ≠ 2 by omega) b hb hh
        have ht3 : t < (Q.remove 0).n := ht
        obtain ⟨o1, o2, o3⟩ := hq3.ok.each t ht3
        have hgk := fun V (hk : Keeps w3 lab1 z V) (o : Nat) => hk.1 ⟨g7, o, none⟩ hbm3.lt (.inl hg7)
        refine ⟨br, cr, hnc, hcm, fun V hk => ⟨hk.2.trans r0, (hgk V hk 0).trans (hbm3.cell 0), (hgk V hk 1).trans (hbm3.cell 1), (hgk V hk 2).trans (hbm3.cell 2), (hgk V hk 3).trans (hbm3.cell 3), (hgk V hk 4).trans (hbm3.cell 4), (hgk V hk 5).trans (hbm3.cell 5), (hgk V hk 6).trans (hbm3.cell 6), (hgk V hk 7).trans (hbm3.cell 7), (hgk V hk 8).trans (hbm3.cell 8), (hk.1 ⟨br, t, none⟩ hbl (.inr hb1)).trans (r1 t ht3)⟩, ?_, fun W' x hc => ?_⟩
        · exact p_handle (hq3.reps t ht3) ⟨kd, (f : Int), (t : Int), mt, ix, pr, cm, ok, es⟩ Ax cx hE (part_ne (by omega)) hesok (by show es.length ≤ 1000000; omega) (by omega)
        · exact hq3.sent (m := n + k * 700000 + 700000) ht3 (x := (Q.rs t).handle ⟨kd, (f : Int), (t : Int), mt, ix, pr, cm, ok, es⟩) (e := x) (w' := W') (by omega) hc (handle_n _ _).1 (handle_n _ _).2 (by have := o1.handle_to (m := ⟨kd, (f : Int), (t : Int), mt, ix, pr, cm, ok, es⟩); rw [o3] at this; exact this) o1.handle_len : ∃ br cr, Q.n ≤ cr ∧ cr ≤ maxLen ∧ (∀ V, Keeps w3 lab1 z V → V.cell? ⟨z, 0, none⟩ = some (.slice (some ⟨br, 0, none⟩) Q.n cr) ∧ V.cell? ⟨g7, 0, none⟩ = some (.int .i64 kd) ∧ V.cell? ⟨g7, 1, none⟩ = some (.int .i64 (f : Int)) ∧ V.cell? ⟨g7, 2, none⟩ = some (.int .i64 (t : Int)) ∧ V.cell? ⟨g7, 3, none⟩ = some (.int .i64 mt) ∧ V.cell? ⟨g7, 4, none⟩ = some (.int .i64 ix) ∧ V.cell? ⟨g7, 5, none⟩ = some (.int .i64 pr) ∧ V.cell? ⟨g7, 6, none⟩ = some (.int .i64 cm) ∧ V.cell? ⟨g7, 7, none⟩ = some (.bool ok) ∧ V.cell? ⟨g7, 8, none⟩ = some (.slice Ax es.length cx) ∧ V.cell? ⟨br, t, none⟩ = some (.pointer (some ⟨pv t, 0, none⟩))) ∧ Calls Try.prog 41 #[.pointer (some ⟨pv t, 0, none⟩), Ms.v ⟨kd, (f : Int), (t : Int), mt, ix, pr, cm, ok, es⟩ (.slice Ax es.length cx)] w3 (CallTo w3 (part lab1 (10 + t)) (pv t) ((Q.rs t).handle ⟨kd, (f : Int), (t : Int), mt, ix, pr, cm, ok, es⟩) (n + k * 700000 + 700000)) ∧ ∀ W' x, CallTo w3 (part lab1 (10 + t)) (pv t) ((Q.rs t).handle ⟨kd, (f : Int), (t : Int), mt, ix, pr, cm, ok, es⟩) (n + k * 700000 + 700000) x W' →
          ∃ A c, x = .returned (.slice A ((Q.rs t).handle ⟨kd, (f : Int), (t : Int), mt, ix, pr, cm, ok, es⟩).2.length c) ∧ Keeps w3 lab1 z W' ∧ Calls Try.prog 40 #[.pointer (some ⟨z, 0, none⟩), .slice A ((Q.rs t).handle ⟨kd, (f : Int), (t : Int), mt, ix, pr, cm, ok, es⟩).2.length c] W' fun e2 w2 => e2 = .returned (.tuple #[]) ∧ Keeps w3 lab1 z w2 ∧ QTo w3 lab1 z pv ((Q.remove 0).put t ((Q.rs t).handle ⟨kd, (f : Int), (t : Int), mt, ix, pr, cm, ok, es⟩)) (n + k * 700000 + 700000) w2)
      have hfresh : ∀ b, wr.heap.size ≤ b → lab1 b = none := fun b hb => by
        cases hlg : lab1 b with
        | none => rfl
        | some j => exact absurd (hq.lt b j hlg) (by omega)
      have hrl : (Q.remove 0).net.length + 1 = Q.net.length := by
        show (Q.net.eraseIdx 0).length + 1 = _
        rw [List.length_eraseIdx, if_pos l0]
        omega
      obtain ⟨N, hN⟩ : ∃ N, N = Q.n := ⟨_, rfl⟩
      rw [← hN] at hgo ht hf5 h5
      have ht2 : (t : Int) < (N : Int) := by omega
      have h6 : f < 64 := by omega
      have h7 : t < 64 := by omega
      generalize (Q.rs t).handle ⟨kd, (f : Int), (t : Int), mt, ix, pr, cm, ok, es⟩ = HH at *
      have hl1 := Lib.hid hl1
      unfold Ms.v at hgo
      obtain ⟨RL, hRL⟩ : ∃ RL, RL = (Q.remove 0).net.length := ⟨_, rfl⟩
      rw [← hRL] at hrl hskip
      have hnl := Lib.hid hnl
      obtain ⟨QL, hQL⟩ : ∃ QL, QL = Q.net.length := ⟨_, rfl⟩
      rw [← hQL] at b0 b1 hi2 z1 hrl hnl hn256 l0
      have hrem : ∀ W, Fr No wr W → Calls Try.prog 39 #[.pointer (some ⟨z, 0, none⟩), .int .i64 0] W fun e w' => e = .returned (.tuple #[]) ∧ QAt w' lab1 z pv (Q.remove 0) (n + k * 700000) ∧ Fr (fun b => lab1 b = some 0 ∨ lab1 b = some 2) W w' := hrem
      clear hfl hq hfr m1 m2 m3 m4 hm hml hmto hxe hesok hN hRL hQL
      have HREM := Lib.hid hrem
      have HGO := Lib.hid hgo
      have HSKIP := Lib.hid hskip
      have HGIVE := Lib.hid hgive
      have HFRESH := Lib.hid hfresh
      have HIFF := Lib.hid hiff
      have HRL := Lib.hid hrl
      clear hrem hgo hskip hgive hfresh hiff hrl
      go_upto_region 4 with fail
      obtain ⟨W1, hW1⟩ : ∃ W1, W1 = wr.alloc (.cells #[.int .i64 kd, .int .i64 (f : Int), .int .i64 (t : Int), .int .i64 mt, .int .i64 ix, .int .i64 pr, .int .i64 cm, .bool ok, .slice Ax es.length cx] TMs) := ⟨_, rfl⟩
      obtain ⟨g7, hg7⟩ : ∃ g7, g7 = wr.heap.size := ⟨_, rfl⟩
      rw [← hW1, ← hg7]
      have f1 : Fr No wr W1 := by rw [hW1]; exact fr_alloc _ _
      have hbm : Blk W1 g7 TMs (Ms.cells ⟨kd, (f : Int), (t : Int), mt, ix, pr, cm, ok, es⟩ (.slice Ax es.length cx)).toArray := by rw [hW1, hg7]; exact Blk.new _ _ _
      have hl7 := Lib.hid (HFRESH.out g7 (by omega))
      have F1 := Lib.hid f1
      have BM := Lib.hid hbm
      have hz1 := Nat.lt_of_lt_of_le hzw f1.size
      have h71 := hbm.lt
      clear b0 b1 b2 z1 e0 e1 e2 e3 e4 e5 e6 e7 e8 f1 hbm hW1 hg7 HFRESH hzw hbl
      go_wp2_with fail
      refine (HREM.out _ F1.out).mono ?_
      rintro e w2 ⟨rfl, q2, f2⟩
      have hb2 : Blk w2 g7 TMs (Ms.cells ⟨kd, (f : Int), (t : Int), mt, ix, pr, cm, ok, es⟩ (.slice Ax es.length cx)).toArray := BM.out.fr f2 fun hh => by rw [hl7.out] at hh; simp at hh
      obtain ⟨y0, y1, y2, -⟩ := ms_cells hb2
      simp only at y0 y1 y2
      have hz2 := Nat.lt_of_lt_of_le hz1 f2.size
      have h72 := hb2.lt
      have a1 := and_one_i64 (up / 2 ^ f)
      have a2 := and_one_i64 (up / 2 ^ t)
      clear hb2
      by_cases hup : inUp up ⟨kd, (f : Int), (t : Int), mt, ix, pr, cm, ok, es⟩
      · obtain ⟨p1, p2⟩ := HIFF.out.1 hup
        have g1 : (bits BinOp.and IntKind.i64 (up / 2 ^ f) 1 == 0) = false := by rw [a1]; simpa using p1
        have g2 : (bits BinOp.and IntKind.i64 (up / 2 ^ t) 1 == 0) = false := by rw [a2]; simpa using p2
        have Q3 := Lib.hid (show QAt w2.drew lab1 z pv (Q.remove 0) (n + k * 700000) ∧ Fr (fun b => lab1 b = some 0 ∨ lab1 b = some 2) W1 w2.drew from ⟨q2.frNo (Fr.refl _ _).drew, f2.drew⟩)
        obtain ⟨br, cr, hnc, hcm, hks, hcall, hsent⟩ := HGO.out W1 w2.drew g7 F1.out hl7.out BM.out Q3.out.1 Q3.out.2
        have hd := hks w2.drew ⟨fun _ _ _ => rfl, rfl⟩
        have HE := Lib.hid fun W3 h3 => HGIVE.out hup W1 w2.drew W3 F1.out Q3.out.2 h3
        unfold maxLen at hcm
        clear HGO HSKIP HGIVE HREM HIFF hup p1 p2 a1 a2 q2 f2
        have HKS := Lib.hid hks
        have HCALL := Lib.hid hcall
        have HSENT := Lib.hid hsent
        clear hks hcall hsent
        go_wp2_with fail
        clear y0 y1 y2 g1 g2
        go_region_held3 (fun V => V.cell? ⟨z, 0, none⟩ = some (.slice (some ⟨br, 0, none⟩) N cr) ∧ V.cell? ⟨g7, 0, none⟩ = some (.int .i64 kd) ∧ V.cell? ⟨g7, 1, none⟩ = some (.int .i64 (f : Int)) ∧ V.cell? ⟨g7, 2, none⟩ = some (.int .i64 (t : Int)) ∧ V.cell? ⟨g7, 3, none⟩ = some (.int .i64 mt) ∧ V.cell? ⟨g7, 4, none⟩ = some (.int .i64 ix) ∧ V.cell? ⟨g7, 5, none⟩ = some (.int .i64 pr) ∧ V.cell? ⟨g7, 6, none⟩ = some (.int .i64 cm) ∧ V.cell? ⟨g7, 7, none⟩ = some (.bool ok) ∧ V.cell? ⟨g7, 8, none⟩ = some (.slice Ax es.length cx) ∧ V.cell? ⟨br, t, none⟩ = some (.pointer (some ⟨pv t, 0, none⟩))) (first | exact hd | exact k1 | exact k2) (first
          | (go_at_call 41; refine HCALL.out.mono ?_; rintro e v1 hc; obtain ⟨A1, c1', rfl, k1', hs⟩ := HSENT.out _ _ hc; have k1 := HKS.out _ k1'; have HS2 := Lib.hid hs; clear hc k1' hs)
          | (go_at_call 40; refine HS2.out.mono ?_; rintro e v2 ⟨rfl, k2', q2⟩; have k2 := HKS.out _ k2'; have Q2 := Lib.hid q2; clear k2' q2))
        have hnote := Lib.hid (QTo.noted Q2.out)
        clear hd HKS k2 HCALL HSENT HS2
        go_wp2_with fail
        refine hnote.out.mono ?_
        rintro e v3 ⟨rfl, q3⟩
        have QE := Lib.hid (HE.out _ q3)
        clear q3 hnote HE Q2 Q3
        go_wp2_with fail
        refine ⟨⟨k + 1, by omega, by go_num, QE.out.1⟩, ?_⟩
        have := QE.out.2
        have := hnl.out
        simp [intOf]
        omega
      · have T9 := Lib.hid (HSKIP.out hup W1 w2 F1.out q2 f2)
        have hno : ¬ ((up / 2 ^ f) % 2 ≠ 0 ∧ (up / 2 ^ t) % 2 ≠ 0) := fun hh => hup (HIFF.out.2 hh)
        clear HGO HSKIP HGIVE HREM HIFF hup q2 f2
        by_cases p1 : (up / 2 ^ f) % 2 = 0
        · have g1 : (bits BinOp.and IntKind.i64 (up / 2 ^ f) 1 == 0) = true := by rw [a1]; simpa using p1
          clear hno a1 a2 p1
          go_wp2_with fail
          refine ⟨⟨k, by omega, by go_num, T9.out.1⟩, ?_⟩
          have := T9.out.2
          have := hnl.out
          have := HRL.out
          simp [intOf]
          omega
        · have p2 : (up / 2 ^ t) % 2 = 0 := Classical.byContradiction fun h2 => hno ⟨p1, h2⟩
          have g1 : (bits BinOp.and IntKind.i64 (up / 2 ^ f) 1 == 0) = false := by rw [a1]; simpa using p1
          have g2 : (bits BinOp.and IntKind.i64 (up / 2 ^ t) 1 == 0) = true := by rw [a2]; simpa using p2
          clear hno a1 a2 p1 p2
          go_wp2_with fail
          refine ⟨⟨k, by omega, by go_num, T9.out.1⟩, ?_⟩
          have := T9.out.2
          have := hnl.out
          have := HRL.out
          simp [intOf]
          omega
    · have T9 := Lib.hid (show Flushes up q 0 Q k ∧ QTo w lab z pv Q (n + 4000000000) wr from ⟨hfl _ _ (.stop Q k (by
        rcases Nat.eq_zero_or_pos Q.net.length with h0 | h0
        · exact .inl (List.eq_nil_of_length_eq_zero h0)
        · exact .inr (by omega))), ⟨lab1, hq.more (by omega), hl1, hfr⟩⟩)
      clear hfl hq hl1 hfr m1 m2 m3 m4 hnl
      by_cases h0 : 0 < Q.net.length
      · have b0 : decide (0 < Q.net.length) = true := decide_eq_true h0
        have b1 : decide ((0 : Int) < (Q.net.length : Int)) = true := decide_eq_true (by omega)
        have k5 : ¬ k < 5000 := fun h => hlt ⟨h0, h⟩
        have b2 : decide ((k : Int) < 5000) = false := decide_eq_false (by omega)
        clear hlt
        go_wp2_with fail
        go_ret
        exact ⟨k, Q, rfl, hk, T9.out.1, T9.out.2⟩
      · have b0 : decide (0 < Q.net.length) = false := decide_eq_false h0
        have b1 : decide ((0 : Int) < (Q.net.length : Int)) = false := decide_eq_false (by omega)
        clear hlt
        go_wp2_with fail
        go_ret
        exact ⟨k, Q, rfl, hk, T9.out.1, T9.out.2⟩
end
end Go.Proofs.Ytokblidfekbeeaa
/- The program's quorum: New. -/
namespace Go.Proofs.Ytokblidfekbeeaa
open Go.ChangeShapes Go.WideShapes Go.ChangeAt Go.RowKit
set_option linter.unusedVariables false
theorem ptr_info : (Try.prog.info? TPR).map (fun i => (i.zero, i.size, i.bytes)) = some (some (.pointer none), 1, 8) := by kernel_rfl
/-- The quorum z has k replicas of n so far. -/
def NewAt (w : World) (n z k : Nat) (W : World) : Prop :=
  ∃ (lab : Nat → Option Nat) (pv : Nat → Nat) (A : Option Addr) (c : Nat), (∀ b j, lab b = some j → w.heap.size ≤ b ∧ b < W.heap.size) ∧ lab z = some 0 ∧ Blk W z TQuo #[.slice A k c, .slice none 0 0, .slice none 0 0] ∧ Own W (part lab 1) TPR (.slice A k c) ((List.range k).map fun i => .pointer (some ⟨pv i, 0, none⟩)) ∧ (∀ i, i < k → RAt W (part lab (10 + i)) (pv i) (repNew i n) 0) ∧ Fr No w W
theorem NewAt.next {w wr W1 W' : World} {n z k p : Nat} {lab : Nat → Option Nat} {pv : Nat → Nat} {A : Option Addr} {c : Nat} {F : Nat → Prop} {v' : Value}
    (h1 : ∀ b j, lab b = some j → w.heap.size ≤ b ∧ b < wr.heap.size) (h2 : lab z = some 0) (h3 : Blk wr z TQuo #[.slice A k c, .slice none 0 0, .slice none 0 0]) (h4 : Own wr (part lab 1) TPR (.slice A k c) ((List.range k).map fun i => .pointer (some ⟨pv i, 0, none⟩)))
    (h5 : ∀ i, i < k → RAt wr (part lab (10 + i)) (pv i) (repNew i n) 0) (h6 : Fr No w wr) (hr : RAt W1 F p (repNew k n) 0) (hF : ∀ i, F i → wr.heap.size ≤ i) (hf : Fr No wr W1)
    (ha : Appended (W1.alloc (.cells #[.pointer (some ⟨p, 0, none⟩)] TPR)) 0 TPR (.slice A k c) k ((List.range k).map fun i => .pointer (some ⟨pv i, 0, none⟩)) [.pointer (some ⟨p, 0, none⟩)] 1 v' W') :
    NewAt w n z (k + 1) (W'.setCell ⟨z, 0, none⟩ v') ∧ Fr (part lab 1) W1 W' := by
  classical
  have hf2 : Fr No wr (W1.alloc (.cells #[.pointer (some ⟨p, 0, none⟩)] TPR)) := hf.alloc _
  obtain ⟨o1, f1⟩ := (h4.frNo hf2).appended (by simp) rfl ha
  obtain ⟨pv2, hpv2⟩ : ∃ pv2 : Nat → Nat, pv2 = fun i => if i = k then p else pv i := ⟨_, rfl⟩
  rw [show ((List.range k).map (fun i => Value.pointer (some (⟨pv i, 0, none⟩ : Addr))) ++ [Value.pointer (some ⟨p, 0, none⟩)]) = (List.range (k + 1)).map (fun i => Value.pointer (some (⟨pv2 i, 0, none⟩ : Addr))) from by
    rw [List.range_succ, List.map_append, List.map_singleton, hpv2]
    simp only [if_true]
    congr 1
    apply List.map_congr_left
    intro i hi
    rw [if_neg (by have := List.mem_range.1 hi; omega)]] at o1
  have hlen : ((List.range (k + 1)).map (fun i => Value.pointer (some (⟨pv2 i, 0, none⟩ : Addr)))).length = k + 1 := by simp
  obtain ⟨A', c', hv, -⟩ := o1.form
  rw [hlen] at hv
  subst hv
  have hsz := hf.size
  have hsa : (W1.alloc (.cells #[.pointer (some ⟨p, 0, none⟩)] TPR)).heap.size = W1.heap.size + 1 := by simp
  have hs1 := f1.size
  have hzl := (h1 z 0 h2).2
  have hrl := hr.lt
  rw [hsa] at hs1
  obtain ⟨lab2, hlab⟩ : ∃ lab2 : Nat → Option Nat, lab2 = fun b => if b < wr.heap.size then lab b else if F b then some (10 + k) else if b = W1.heap.size + 1 ∧ b < W'.heap.size then some 1 else none := ⟨_, rfl⟩
  have ho : ∀ b, b < wr.heap.size → lab2 b = lab b := fun b hb => by rw [hlab]; exact if_pos hb
  have hold : ∀ j b, lab b = some j → lab2 b = some j := fun j b hb => by rw [ho b (h1 b j hb).2]; exact hb
  have hfz : Fr (fun b => b = z) W' (W'.setCell ⟨z, 0, none⟩ (.slice A' (k + 1) c')) := fr_set W' ⟨z, 0, none⟩ _
  have hlt2 : ∀ b j, lab2 b = some j → w.heap.size ≤ b ∧ b < (W'.setCell ⟨z, 0, none⟩ (.slice A' (k + 1) c')).heap.size := fun b j hb => by
    have h6s := h6.size
    have h7s := hfz.size
    rw [hlab] at hb
    simp only at hb
    split at hb
    · have := h1 b j hb
      omega
    · split at hb
      · have := hrl b ‹_›
        omega
      · split at hb
        · omega
        · cases hb
  have hne : ∀ i j : Nat, i ≠ j → ∀ b, lab b = some i → ¬ lab b = some j := fun i j hij b hi hj => by
    rw [hi] at hj
    injection hj with hj
    exact hij hj
  have hFn : ∀ b, F b → ¬ part lab 1 b := fun b hb hh => by
    have := hF b hb
    have := (h1 b 1 hh).2
    omega
  refine ⟨⟨lab2, pv2, A', c', hlt2, hold 0 z h2, ?_, ?_, fun i hi => ?_, ?_⟩, ((fr_alloc W1 _).mono (G := part lab 1) fun _ h => h.elim).trans f1 fun b hb => .inl hb⟩
  · have hz2 : Blk W' z TQuo #[.slice A k c, .slice none 0 0, .slice none 0 0] := (h3.fr hf2 (fun h => h)).fr f1 (hne 0 1 (by omega) z h2)
    exact (hz2.set_ 0 _).conv rfl
  · refine ((o1.fr hfz fun b hb e => ?_).mono fun b hb => ?_)
    · rcases hb with hb | ⟨hb, -⟩
      · exact hne 1 0 (by omega) b hb (e ▸ h2)
      · rw [hsa] at hb; omega
    · rcases hb with hb | ⟨hb, hb2⟩
      · exact hold 1 b hb
      · rw [hsa] at hb
        show lab2 b = some 1
        rw [hlab]
        simp only
        rw [if_neg (by omega), if_neg (fun hh => by have := hrl b hh; omega), if_pos ⟨hb, hb2⟩]
  · by_cases hik : i = k
    · subst hik
      have hpi : pv2 i = p := by rw [hpv2]; exact if_pos rfl
      rw [hpi]
      refine ((((hr.frNo (fr_alloc _ _)).fr f1 hFn).fr hfz fun b hb e => ?_).mono (fun b hb => ?_) fun b hb => (hlt2 b _ hb).2)
      · have := hF b hb
        omega
      · show lab2 b = some (10 + i)
        rw [hlab]
        simp only
        rw [if_neg (by have := hF b hb; omega), if_pos hb]
    · have hpi : pv2 i = pv i := by rw [hpv2]; exact if_neg hik
      rw [hpi]
      exact ((((h5 i (by omega)).frNo hf2).fr f1 (hne (10 + i) 1 (by omega))).fr hfz (fun b hb e => hne (10 + i) 0 (by omega) b hb (e ▸ h2))).mono (hold (10 + i)) fun b hb => (hlt2 b _ hb).2
  · have hfin : Fr No w W' := (h6.transNo hf2).trans f1 fun b hb => .inr (h1 b 1 hb).1
    exact hfin.trans hfz fun b hb => .inr (by have := h1 z 0 h2; omega)
theorem NewAt.done {w W : World} {n z : Nat} (h : NewAt w n z n W) (h0 : 0 < n) (h5 : n ≤ 5) : ∃ lab pv, QAt W lab z pv (quoNew n) 0 ∧ (∀ b j, lab b = some j → w.heap.size ≤ b) ∧ Fr No w W := by
  obtain ⟨lab, pv, A, c, a1, a2, a3, a4, a5, a6⟩ := h
  refine ⟨lab, pv, ⟨fun b k hb => (a1 b k hb).2, ⟨A, c, .slice none 0 0, .slice none 0 0, [], a3, a4, ?_, OwnN.nil _ _ _ _⟩, a2, fun i hi => a5 i hi, (QInv.new h0 h5).ok⟩, fun b j hb => (a1 b j hb).1, a6⟩
  exact ⟨OwnN.nil _ _ _ _, rfl, (fun i m x hm => by cases hm), part_ne (show (2 : Nat) ≠ 3 by omega), fun b hb => (a1 b 2 hb).2, fun b hb => (a1 b 3 hb).2⟩
set_option maxRecDepth 100000 in
set_option maxHeartbeats 8000000 in
theorem q_new (n : Nat) (w : World) (h5 : n ≤ 5) (hodd : n % 2 = 1) : Calls Try.prog 8 #[.int .i64 (n : Int)] w fun e w' => ∃ z lab pv, e = .returned (.tuple #[.pointer (some ⟨z, 0, none⟩), .int .i64 0]) ∧ QAt w' lab z pv (quoNew n) 0 ∧ (∀ b j, lab b = some j → w.heap.size ≤ b) ∧ Fr No w w' := by
  obtain ⟨i1, hi1, hz0, hz1, hz2⟩ := info_parts ptr_info
  obtain ⟨W0, hW0⟩ : ∃ W0, W0 = w.alloc (.cells #[.slice none 0 0, .slice none 0 0, .slice none 0 0] TQuo) := ⟨_, rfl⟩
  obtain ⟨z, hz⟩ : ∃ z, z = w.heap.size := ⟨_, rfl⟩
  have hb0 : Blk W0 z TQuo #[.slice none 0 0, .slice none 0 0, .slice none 0 0] := by rw [hz, hW0]; exact Blk.new _ _ _
  have hzw : w.heap.size ≤ z := by rw [hz]; exact Nat.le_refl _
  have hstart : NewAt w n z 0 W0 := by
    refine ⟨fun b => if b = z then some 0 else none, fun _ => 0, none, 0, fun b j hb => ?_, if_pos rfl, hb0, Own.nil _ _ _, fun i hi => absurd hi (Nat.not_lt_zero i), by rw [hW0]; exact fr_alloc _ _⟩
    by_cases h : b = z
    · rw [h]; exact ⟨hzw, hb0.lt⟩
    · simp only [if_neg h] at hb
      cases hb
  clear hzw
  have hgl := hb0.lt
  clear hb0
  have HW0 := Lib.hid hW0
  have HZ := Lib.hid hz
  have HSTART := Lib.hid hstart
  clear hW0 hz hstart
  go_enter Try.func8, Try.ntmps8
  go_upto_region 2 with fail
  rw [← HW0.out, ← HZ.out]
  clear HW0
  go_wp2_with fail
  go_loopw [5] (fun i wr => ∃ k : Nat, k ≤ n ∧ i = .int .i64 k ∧ NewAt w n z k wr) (fun i _ => n - (intOf i).toNat)
  case atStart => exact ⟨0, Nat.zero_le _, rfl, HSTART.out⟩
  case round =>
    obtain ⟨k, hk, rfl, hrel⟩ := hrel
    by_cases hlt : k < n
    · have b1 : decide (k < n) = true := decide_eq_true hlt
      have b2 : decide ((k : Int) < (n : Int)) = true := decide_eq_true (by omega)
      have hnew := p_new k n wr hlt h5 hodd
      obtain ⟨lab, pv, A, c, a1, a2, a3, a4, a5, a6⟩ := hrel
      have hcap := a4.cap
      have hzl := (a1 z 0 a2).2
      have hz0' := fun W (hf : Fr No wr W) => (⟨(a3.fr hf fun h => h).cell 0, (a3.fr hf fun h => h).frozen 0⟩ : W.cell? ⟨z, 0, none⟩ = some (.slice A k c) ∧ W.frozen? ⟨z, 0, none⟩ = false)
      have hz1' := fun W W' (hf : Fr No wr W) (hf' : Fr (part lab 1) W W') => (⟨((a3.fr hf fun h => h).fr hf' (part_ne (by omega) z a2)).cell 0, ((a3.fr hf fun h => h).fr hf' (part_ne (by omega) z a2)).frozen 0⟩ : W'.cell? ⟨z, 0, none⟩ = some (.slice A k c) ∧ W'.frozen? ⟨z, 0, none⟩ = false)
      have hown := fun W (hf : Fr No wr W) => (a4.frNo hf).1
      have hnext := fun W1 W' p F v' hr hF hf ha => NewAt.next (w := w) (W1 := W1) (W' := W') (p := p) (F := F) (v' := v') a1 a2 a3 a4 a5 a6 hr hF hf ha
      clear a1 a2 a3 a4 a5 a6
      simp only [List.length_map, List.length_range] at hown
      have HNEW := Lib.hid hnew
      have HZ0' := Lib.hid hz0'
      have HZ1' := Lib.hid hz1'
      have HOWN := Lib.hid hown
      have HNEXT := Lib.hid hnext
      clear hnew hz0' hz1' hown hnext
      go_wp2_with fail
      refine HNEW.out.mono ?_
      rintro e w1 ⟨p, F, rfl, r1, r2, r3⟩
      obtain ⟨z1, y1⟩ := HZ0'.out _ r3
      have hnx := Lib.hid fun W' v' ha => HNEXT.out w1 W' p F v' r1 r2 r3 ha
      have R3 := Lib.hid r3
      have hzl1 := Nat.lt_of_lt_of_le hzl r3.size
      clear r1 r2 r3 HNEXT HZ0' HNEW
      go_wp2_with (at_builtin; refine wpList_append_rd _ rfl (.tmp 32) (.tmp 34) _ rfl 0 TPR i1 _ 8 Try.underlying55 hi1 hz0 hz1 hz2 rfl (.slice A k c) k ((List.range k).map fun i => .pointer (some ⟨pv i, 0, none⟩)) rfl (HOWN.out _ (R3.out.alloc _)) (w1.heap.size + 1) (some ⟨w1.heap.size, 0, none⟩) 1 1 [.pointer (some ⟨p, 0, none⟩)] rfl (fun h => by cases h) (Rd.new w1 _ TPR rfl) rfl (fun u hu => by simp at hu; subst hu; rfl) (by unfold maxLen; omega) (by omega) (Nat.zero_le _) ?_)
      intro v1 w2 happ
      obtain ⟨A4, c4, rfl, n4⟩ := ownsRow_slice_form happ.1
      clear n4
      obtain ⟨t9, f9⟩ := hnx.out w2 _ happ
      obtain ⟨x9, y9⟩ := HZ1'.out _ _ R3.out f9
      have hzl2 := Nat.lt_of_lt_of_le hzl1 f9.size
      have T9 := Lib.hid t9
      clear happ t9 f9 hnx HZ1' HOWN R3 z1 y1
      go_wp2_with fail
      go_roundw
      case rel => exact ⟨k + 1, by omega, by go_num, T9.out⟩
      case measure => simp [intOf]; omega
    · obtain rfl : k = n := by omega
      have b1 : decide (k < k) = false := by simp
      have hk0 : ((k : Int) == 0) = false := by simp; omega
      have T9 := Lib.hid (hrel.done (by omega) h5)
      clear hrel
      go_wp2_with fail
      go_ret2
      obtain ⟨lab, pv, t1, t2, t3⟩ := T9.out
      exact ⟨z, lab, pv, rfl, t1, t2, t3⟩
end Go.Proofs.Ytokblidfekbeeaa
/- The program's quorum: a proposal. -/
namespace Go.Proofs.Ytokblidfekbeeaa
open Go.ChangeShapes Go.WideShapes Go.ChangeAt Go.RowKit
set_option linter.unusedVariables false
section
variable {w w' : World} {lab lab' : Nat → Option Nat} {z n m : Nat} {pv : Nat → Nat} {q q1 : Qs} {F : Nat → Prop}
theorem CallTo2.to1 {F : Nat → Prop} {p : Nat} {x : Rs × List Ms} {X : Int} {e : Ending} (h : CallTo2 w F p x X n e w') : ∃ A c, e = .returned (.tuple #[.slice A x.2.length c, .int .i64 X]) ∧ CallTo w F p x n (.returned (.slice A x.2.length c)) w' := by
  obtain ⟨A, c, F', G, e1, h1⟩ := h
  exact ⟨A, c, e1, A, c, F', G, rfl, h1⟩
theorem propose_no {r : Rs} {e : En} (h : r.propX e ≠ 0) : r.propose e = (r, []) := by unfold Rs.propose; rw [if_neg h]
theorem put_self (q : Qs) (i : Nat) : q.put i (q.rs i, []) = q := by
  obtain ⟨n, rs, net, d⟩ := q
  unfold Qs.put
  simp only [Qs.mk.injEq, true_and, and_true]
  refine ⟨funext fun k => ?_, rfl⟩
  by_cases hk : k = i
  · subst hk; exact upd_self _ _ _
  · exact upd_ne hk
set_option maxRecDepth 100000 in
set_option maxHeartbeats 8000000 in
theorem q_do_2 (h : QAt w lab z pv q n) (i : Nat) (hi : i < q.n) (num : Int) (e : En) (he : e.ok) (hsz : n + 800000 ≤ 140737488355328) : Calls Try.prog 24 #[.pointer (some ⟨z, 0, none⟩), actV 2 i num e] w (DoTo w lab z pv q n 2 i num e) := by
  have hpm : q.permits 2 (i : Int) num = true := by unfold Qs.permits; simp; omega
  have hX : q.actX 2 (i : Int) num e = (q.rs i).propX e := by unfold Qs.actX; simp [hpm]
  have hA : (q.rs i).propX e = 0 → q.act 2 (i : Int) num e = (q.put i ((q.rs i).propose e)).note := fun h0 => by unfold Qs.act; simp [hX, h0]
  have hA2 : (q.rs i).propX e ≠ 0 → q.act 2 (i : Int) num e = q.put i ((q.rs i).propose e) := fun h0 => by rw [propose_no h0, put_self]; unfold Qs.act; simp [hX, h0]
  obtain ⟨W0, hW0⟩ : ∃ W0, W0 = w.alloc (.cells (actC 2 (i : Int) num e).toArray TAct) := ⟨_, rfl⟩
  have hf0 : Fr No w W0 := by rw [hW0]; exact fr_alloc _ _
  obtain ⟨g, hg⟩ : ∃ g, g = w.heap.size := ⟨_, rfl⟩
  have hb0 : Blk W0 g TAct (actC 2 (i : Int) num e).toArray := by rw [hg, hW0]; exact Blk.new _ _ _
  have hper := q_permitted (h.frNo hf0) 2 (i : Int) num e
  rw [hpm] at hper
  have hac := fun W (hf : Fr No W0 W) => act_cells (hb0.fr hf (fun h => h))
  obtain ⟨br, cr, hnc, hcm, hb1, hbl, r0, r1⟩ := h.row1
  have hzw := h.lt z 0 h.z0
  have hgn : lab g = none := by
    cases hlg : lab g with
    | none => rfl
    | some j => exact absurd (h.lt g j hlg) (by omega)
  have hgk := fun W V (hf : Fr No W0 W) (hk : Keeps W lab z V) (o : Nat) => hk.1 ⟨g, o, none⟩ (Nat.lt_of_lt_of_le hb0.lt hf.size) (.inl hgn)
  have hks := fun W V (hf : Fr No W0 W) (hk : Keeps W lab z V) => (let ⟨_, a1, _, a3, a4, a5, a6, a7, a8, a9, a10, a11⟩ := act_cells (hb0.fr hf (fun h => h)); ⟨hk.2.trans (((hf0.transNo hf).cell (p := ⟨z, 0, none⟩) hzw fun h => h).trans r0), (hgk W V hf hk 1).trans a1, (hgk W V hf hk 3).trans a3, (hgk W V hf hk 4).trans a4, (hgk W V hf hk 5).trans a5, (hgk W V hf hk 6).trans a6, (hgk W V hf hk 7).trans a7, (hgk W V hf hk 8).trans a8, (hgk W V hf hk 9).trans a9, (hgk W V hf hk 10).trans a10, (hgk W V hf hk 11).trans a11, (hk.1 ⟨br, i, none⟩ (Nat.lt_of_lt_of_le hbl (hf0.transNo hf).size) (.inr hb1)).trans (((hf0.transNo hf).cell (p := ⟨br, i, none⟩) hbl fun h => h).trans (r1 i hi))⟩ : V.cell? ⟨z, 0, none⟩ = some (.slice (some ⟨br, 0, none⟩) q.n cr) ∧ V.cell? ⟨g, 1, none⟩ = some (.int .i64 i) ∧ V.cell? ⟨g, 3, none⟩ = some (.int .i64 e.kind) ∧ V.cell? ⟨g, 4, none⟩ = some (.int .i64 e.tick) ∧ V.cell? ⟨g, 5, none⟩ = some (.int .i64 e.tenant) ∧ V.cell? ⟨g, 6, none⟩ = some (.int .i64 e.cell) ∧ V.cell? ⟨g, 7, none⟩ = some (.int .i64 e.other) ∧ V.cell? ⟨g, 8, none⟩ = some (.int .i64 e.epoch) ∧ V.cell? ⟨g, 9, none⟩ = some (.int .i64 e.from_) ∧ V.cell? ⟨g, 10, none⟩ = some (.int .i64 e.until_) ∧ V.cell? ⟨g, 11, none⟩ = some (.int .i64 e.n) ∧ V.cell? ⟨br, i, none⟩ = some (.pointer (some ⟨pv i, 0, none⟩)))
  have h5 := h.ok.five
  obtain ⟨o1, o2, o3⟩ := h.ok.each i hi
  have hcall := fun W (hf : Fr No w W) => p_propose ((h.frNo hf).reps i hi) e he (by omega)
  have hsent := fun W W' x (hf : Fr No w W) hc => (h.frNo hf).sent (m := n + 128) hi (x := (q.rs i).propose e) (e := x) (w' := W') (by omega) hc (propose_n _ e).1 (propose_n _ e).2 (by have := o1.propose_to e he; rw [o3] at this; exact this) (o1.propose_len e he)
  have hturn := fun W W' x (hf : Fr No w W) hc (hX0 : (q.rs i).propX e ≠ 0) => (let ⟨_, _, lab', _, _, _, b2, _, _, b5, b6⟩ := (h.frNo hf).turned (m := n + 128) hi (x := (q.rs i).propose e) (e := x) (w' := W') (by omega) hc (propose_n _ e).1 (propose_n _ e).2; ⟨lab', by rw [propose_no hX0] at b2 ⊢; exact b2, b5, b6.mono fun b hb => by
    have hb : lab b = some (10 + i) := hb
    rw [hb]; simp⟩ : QTo W lab z pv (q.put i ((q.rs i).propose e)) (n + 128) W')
  have hend := fun W W' qq (hf : Fr No w W) (hq : QTo W lab z pv qq (n + 128) W') => QTo.after (n := n + 700000) hf h.lt (hq.more (by omega))
  have hi2 : (i : Int) < (q.n : Int) := by omega
  have hzl : z < W0.heap.size := Nat.lt_of_lt_of_le (h.lt z 0 h.z0) hf0.size
  obtain ⟨c0, c1, c2, c3, c4, c5, c6, c7, c8, c9, c10, c11⟩ := hac W0 (Fr.refl _ _)
  have hgl := hb0.lt
  unfold maxLen at hcm
  unfold DoTo
  rw [hX]
  have FF := Lib.hid hf0
  obtain ⟨Y, hY⟩ : ∃ Y, Y = (q.rs i).propose e := ⟨_, rfl⟩
  obtain ⟨XX, hXX⟩ : ∃ XX, XX = (q.rs i).propX e := ⟨_, rfl⟩
  obtain ⟨AQ, hAQ⟩ : ∃ AQ, AQ = q.act 2 (i : Int) num e := ⟨_, rfl⟩
  rw [← hAQ, ← hXX]
  rw [← hY, ← hXX] at hcall
  rw [← hAQ, ← hXX, ← hY] at hA hA2
  simp only [← hY, ← hXX] at hsent hturn
  obtain ⟨ek, ti, te, ce, ot, ep, fr, un, nn⟩ := e
  simp only [actC] at hW0
  simp only at c3 c4 c5 c6 c7 c8 c9 c10 c11 hks
  unfold actV at hper ⊢
  unfold En.v at hcall
  clear h hpm hX hb0 hf0 o1 o2 o3 hgk hXX hY hAQ he
  have HPER := Lib.hid hper
  have HAC := Lib.hid hac
  have HKS := Lib.hid hks
  have HCALL := Lib.hid hcall
  have HSENT := Lib.hid hsent
  have HTURN := Lib.hid hturn
  have HEND := Lib.hid hend
  have HW0 := Lib.hid hW0
  have HG := Lib.hid hg
  have HA := Lib.hid hA
  have HA2 := Lib.hid hA2
  clear hper hac hks hcall hsent hturn hend hW0 hg hA hA2
  go_enter Try.func24, Try.ntmps24
  go_upto_region 1 with fail
  rw [← HW0.out, ← HG.out]
  go_wp2_with fail
  refine HPER.out.mono ?_
  rintro e w1 ⟨rfl, f1⟩
  obtain ⟨d0, d1, d2, -⟩ := HAC.out w1 f1
  have F1 := Lib.hid (FF.out.transNo f1).drew
  have hd := HKS.out w1.drew w1.drew f1.drew ⟨fun _ _ _ => rfl, rfl⟩
  have HKT := Lib.hid fun V (hk : Keeps w1.drew lab z V) => HKS.out w1.drew V f1.drew hk
  have hz1 : z < w1.heap.size := Nat.lt_of_lt_of_le hzl f1.size
  have hg1 : g < w1.heap.size := Nat.lt_of_lt_of_le hgl f1.size
  have hcal := Lib.hid (HCALL.out _ F1.out)
  have hsen := Lib.hid fun W' x => HSENT.out _ W' x F1.out
  have htur := Lib.hid fun W' x => HTURN.out _ W' x F1.out
  clear c0 c1 c2 c3 c4 c5 c6 c7 c8 c9 c10 c11 f1 HKS HAC HCALL HSENT HTURN HPER r0 r1
  go_wp2_with fail
  go_region_held3 (fun V => V.cell? ⟨z, 0, none⟩ = some (.slice (some ⟨br, 0, none⟩) q.n cr) ∧ V.cell? ⟨g, 1, none⟩ = some (.int .i64 i) ∧ V.cell? ⟨g, 3, none⟩ = some (.int .i64 ek) ∧ V.cell? ⟨g, 4, none⟩ = some (.int .i64 ti) ∧ V.cell? ⟨g, 5, none⟩ = some (.int .i64 te) ∧ V.cell? ⟨g, 6, none⟩ = some (.int .i64 ce) ∧ V.cell? ⟨g, 7, none⟩ = some (.int .i64 ot) ∧ V.cell? ⟨g, 8, none⟩ = some (.int .i64 ep) ∧ V.cell? ⟨g, 9, none⟩ = some (.int .i64 fr) ∧ V.cell? ⟨g, 10, none⟩ = some (.int .i64 un) ∧ V.cell? ⟨g, 11, none⟩ = some (.int .i64 nn) ∧ V.cell? ⟨br, i, none⟩ = some (.pointer (some ⟨pv i, 0, none⟩))) (first | exact hd | exact k1) (first
    | (go_at_call 45; refine hcal.out.mono ?_; rintro e v1 hc; obtain ⟨A1, c1', rfl, hc1⟩ := CallTo2.to1 hc; obtain ⟨A2, c2', e2, k1', hs⟩ := hsen.out _ _ hc1; injection e2 with e2; injection e2 with q1 q2 q3; subst q1 q3; have k1 := HKT.out _ k1'; have HS2 := Lib.hid hs; have HT2 := Lib.hid (htur.out _ _ hc1); clear hc hc1 k1' hs q2))
  by_cases hx0 : XX = 0
  · have HAA := Lib.hid (HA.out hx0)
    subst hx0
    clear hd HKT d0 d1 d2 k1 hcal hsen htur HT2 HA HA2
    go_wp2_with fail
    refine HS2.out.mono ?_
    rintro e v2 ⟨rfl, -, q2⟩
    have hnote := Lib.hid (QTo.noted q2)
    clear q2 HS2
    go_wp2_with fail
    refine hnote.out.mono ?_
    rintro e v3 ⟨rfl, q3⟩
    have Q3 := Lib.hid (HEND.out _ _ _ F1.out q3)
    clear q3 hnote HEND
    go_wp2_with fail
    go_ret
    exact ⟨rfl, by rw [HAA.out]; exact Q3.out⟩
  · have hx1 : decide (XX = 0) = false := by simpa using hx0
    have HAA := Lib.hid (HA2.out hx0)
    have Q3 := Lib.hid (HEND.out _ _ _ F1.out (HT2.out hx0))
    clear hd HKT d0 d1 d2 k1 hcal hsen htur HT2 HA HA2 HS2 HEND
    go_wp2_with fail
    go_ret
    exact ⟨rfl, by rw [HAA.out]; exact Q3.out⟩
end
end Go.Proofs.Ytokblidfekbeeaa
/- The program's quorum: an act, whatever it is. -/
namespace Go.Proofs.Ytokblidfekbeeaa
open Go.ChangeShapes Go.WideShapes Go.ChangeAt Go.RowKit
set_option linter.unusedVariables false
section
variable {w w' : World} {lab lab' : Nat → Option Nat} {z n m : Nat} {pv : Nat → Nat} {q q1 : Qs} {F : Nat → Prop}
theorem q_do (h : QAt w lab z pv q n) (kind who num : Int) (e : En) (he : e.ok) (hsz : n + 800000 ≤ 140737488355328) : Calls Try.prog 24 #[.pointer (some ⟨z, 0, none⟩), actV kind who num e] w (DoTo w lab z pv q n kind who num e) := by
  cases hp : q.permits kind who num with
  | false => exact q_do_no h kind who num e hp
  | true =>
    rcases permits_kind hp with hk | hk
    · obtain ⟨h0, h1⟩ := permits_who hp hk
      obtain ⟨i, rfl⟩ := Int.eq_ofNat_of_zero_le h0
      rcases hk with rfl | rfl | rfl | rfl
      · exact q_do_1 h i (by omega) num e hsz
      · exact q_do_2 h i (by omega) num e he hsz
      · exact q_do_3 h i (by omega) num e hsz
      · exact q_do_7 h i (by omega) num e
    · obtain ⟨h0, h1⟩ := permits_num hp hk
      obtain ⟨i, rfl⟩ := Int.eq_ofNat_of_zero_le h0
      rcases hk with rfl | rfl | rfl
      · exact q_do_4 h who i (by omega) e hsz
      · exact q_do_5 h who i (by omega) e hsz
      · exact q_do_6 h who i (by omega) e
end
end Go.Proofs.Ytokblidfekbeeaa
