/-
  Several texts in one: JBoth, JBwA, JBwB, JBwC, JBwD, JPlay.
-/
import Derived.Test.YtoiiblopnchljaaQD
import Derived.Test.YtoiiblopnchljaaQA
import Derived.Test.YtoiiblopnchljaaEntE
import Derived.Deep.RegionHeld3
import Derived.Test.YtoiiblopnchljaaActs
/- A journal and the reference's side by side: each call on both; the contract of the law's 'both'. -/
namespace Go.Proofs.Ytoiiblopnchljaa
open Go.ChangeShapes Go.WideShapes Go.ChangeAt Go.RowKit
set_option linter.unusedVariables false

/-- Two journals side by side that remember the same. -/
structure PJ (w0 w : World) (F G : Nat → Prop) (j r d d2 : Nat) (xs : List UInt8) (k : Nat) (s : Js) : Prop where
  jn : JAt w F j d xs k s
  rf : RJAt w G r d2 xs k s
  apart : ∀ i, F i → ¬ G i
  nj : ∀ i, F i → w0.heap.size ≤ i
  nr : ∀ i, G i → w0.heap.size ≤ i
  fr : Fr No w0 w
structure JsOk (s : Js) : Prop where
  few : s.log.length ≤ 4096
  lo : 0 ≤ s.term
  hi : s.term ≤ 1073741824
def PJTo (w0 w' : World) (j r n : Nat) : Prop := ∃ F G d d2 xs k s, PJ w0 w' F G j r d d2 xs k s ∧ JsOk s ∧ xs.length ≤ n

section
variable {w0 w w1 w2 W : World} {F G : Nat → Prop} {j r d d2 : Nat} {xs ys : List UInt8} {k m n : Nat} {s s' : Js}
theorem PJ.frNo (h : PJ w0 w F G j r d d2 xs k s) (hf : Fr No w W) : PJ w0 W F G j r d d2 xs k s := ⟨h.jn.frNo hf, h.rf.frNo hf, h.apart, h.nj, h.nr, h.fr.transNo hf⟩
theorem PJ.mid (h : PJ w0 w F G j r d d2 xs k s) (h1 : JTo w F j d ys m s' w1) : RJAt w1 G r d2 xs k s ∧ Fr F w w1 := by
  obtain ⟨F', a1, i1, f1⟩ := h1
  exact ⟨h.rf.fr f1 fun i hi hg => h.apart i hg hi, f1⟩
theorem PJ.step (h : PJ w0 w F G j r d d2 xs k s) (h1 : JTo w F j d ys m s' w1) (hf : Fr No w1 W) (h2 : RJTo W G r d2 ys m s' w2) :
    Fr (fun i => F i ∨ G i) w w2 ∧ ∃ F' G', PJ w0 w2 F' G' j r d d2 ys m s' := by
  obtain ⟨F', a1, i1, f1⟩ := h1
  obtain ⟨G', b1, j1, g1⟩ := RJTo.after hf h2
  have hg := h.rf.lt
  have hs := h.fr.size
  have hfg : ∀ i, F' i → ¬ G i := fun i hi hh => by
    rcases i1 i hi with h3 | h3
    · exact h.apart i h3 hh
    · have := hg i hh
      omega
  refine ⟨(f1.mono fun i hi => .inl hi).trans g1 fun i hi => .inl (.inr hi), F', G', a1.fr g1 hfg, b1, fun i hi hh => ?_, fun i hi => ?_, fun i hi => ?_, (h.fr.transNew f1 h.nj).transNew g1 h.nr⟩
  · rcases j1 i hh with h3 | h3
    · exact hfg i hi h3
    · have := a1.lt i hi
      omega
  · rcases i1 i hi with h3 | h3
    · exact h.nj i h3
    · omega
  · rcases j1 i hi with h3 | h3
    · exact h.nr i h3
    · have := f1.size
      omega
theorem JTo.quiet (h1 : JTo w F j d ys m s' w1) (hf : Fr No w1 W) : JTo w F j d ys m s' W := h1.trans fun F' h => h.still hf
theorem PJTo.frNo (h : PJTo w0 w j r n) (hf : Fr No w W) : PJTo w0 W j r n := by
  obtain ⟨F, G, d, d2, xs, k, s, h1, h2, h3⟩ := h
  exact ⟨F, G, d, d2, xs, k, s, h1.frNo hf, h2, h3⟩
theorem PJTo.more (h : PJTo w0 w j r n) (hn : n ≤ m) : PJTo w0 w j r m := by
  obtain ⟨F, G, d, d2, xs, k, s, h1, h2, h3⟩ := h
  exact ⟨F, G, d, d2, xs, k, s, h1, h2, Nat.le_trans h3 hn⟩
theorem PJ.ends (h : PJ w0 w F G j r d d2 xs k s) (hs : JsOk s') (hn : ys.length ≤ n) (h1 : JTo w F j d ys m s' w1) (hf : Fr No w1 W) (h2 : RJTo W G r d2 ys m s' w2) :
    Fr (fun i => F i ∨ G i) w w2 ∧ PJTo w0 w2 j r n := by
  obtain ⟨h3, F', G', h4⟩ := h.step h1 hf h2
  exact ⟨h3, F', G', d, d2, ys, m, s', h4, hs, hn⟩

theorem JsOk.set (h : JsOk s) (t v : Int) : JsOk (setTermS s t v) := by
  by_cases h0 : setTermX s t v = 0
  · have := setX_bd h0
    unfold setTermS
    rw [if_pos h0]
    exact ⟨h.few, this.1, this.2.1⟩
  · rw [setTermS_no h0]
    exact h
theorem JsOk.add (h : JsOk s) (t : Int) (e : En) : JsOk (addS s t e) := by
  by_cases h0 : addX s t e = 0
  · have := addX_bd h0
    unfold addS
    rw [if_pos h0]
    exact ⟨by simp only [List.length_append, List.length_singleton]; omega, h.lo, h.hi⟩
  · rw [addS_no h0]
    exact h
theorem JsOk.cut (h : JsOk s) (c : Int) : JsOk (cutS s c) := by
  by_cases h0 : cutX s c = 0
  · have := h.few
    unfold cutS
    rw [if_pos h0]
    exact ⟨by simp only [List.length_take]; omega, h.lo, h.hi⟩
  · rw [cutS_no h0]
    exact h
theorem set_len (t v : Int) : (if setTermX s t v = 0 then xs ++ putN 8 (recT t v) else xs).length ≤ xs.length + 200 := by
  split
  · rename_i h0
    have hr := recT_len h0
    have hp := putN_lenP 8 (recT t v) (by omega)
    rw [List.length_append]
    omega
  · omega
theorem add_len (t : Int) (e : En) (he : e.ok) : (if addX s t e = 0 then xs ++ putN 8 (recE t e) else xs).length ≤ xs.length + 200 := by
  split
  · rename_i h0
    have hr := recE_len he h0
    have hp := putN_lenP 8 (recE t e) (by omega)
    rw [List.length_append]
    omega
  · omega
theorem cut_len (h : JsOk s) (c : Int) : (if cutX s c = 0 then xs ++ putN 8 (recC c) else xs).length ≤ xs.length + 200 := by
  split
  · rename_i h0
    have hr := recC_len h.few h0
    have hp := putN_lenP 8 (recC c) (by omega)
    rw [List.length_append]
    omega
  · omega

theorem pSet_j (h : PJ w0 w F G j r d d2 xs k s) (hn : xs.length ≤ 999999000000) (t v : Int) (hf : Fr No w W) :
    Calls Try.prog 18 #[.pointer (some ⟨j, 0, none⟩), .int .i64 t, .int .i64 v] W fun e w' => e = .returned (.int .i64 (setTermX s t v)) ∧ JTo w F j d (if setTermX s t v = 0 then xs ++ putN 8 (recT t v) else xs) k (setTermS s t v) w' :=
  (j_SetTerm (h.jn.frNo hf) t v (by omega)).mono fun e w' ⟨e1, e2⟩ => ⟨e1, JTo.after hf e2⟩
theorem pSet_r (h : PJ w0 w F G j r d d2 xs k s) (hs : JsOk s) (hn : xs.length ≤ 999999000000) (t v : Int) (h1 : JTo w F j d (if setTermX s t v = 0 then xs ++ putN 8 (recT t v) else xs) k (setTermS s t v) w1) (hf : Fr No w1 W) :
    Calls Try.prog 28 #[.pointer (some ⟨r, 0, none⟩), .int .i64 t, .int .i64 v] W fun e w' => e = .returned (.int .i64 (setTermX s t v)) ∧ Fr (fun i => F i ∨ G i) w w' ∧ PJTo w0 w' j r (xs.length + 200) :=
  (rj_SetTerm ((h.mid h1).1.frNo hf) t v (by omega)).mono fun e w' ⟨e1, e2⟩ => ⟨e1, h.ends (hs.set t v) (set_len t v) h1 hf e2⟩
theorem pAdd_j (h : PJ w0 w F G j r d d2 xs k s) (hs : JsOk s) (hn : xs.length ≤ 999999000000) (t : Int) (e : En) (he : e.ok) (hf : Fr No w W) :
    Calls Try.prog 21 #[.pointer (some ⟨j, 0, none⟩), .int .i64 t, e.v] W fun x w' => x = .returned (.int .i64 (addX s t e)) ∧ JTo w F j d (if addX s t e = 0 then xs ++ putN 8 (recE t e) else xs) k (addS s t e) w' :=
  (j_Append (h.jn.frNo hf) hs.few t e he (by omega)).mono fun e w' ⟨e1, e2⟩ => ⟨e1, JTo.after hf e2⟩
theorem pAdd_r (h : PJ w0 w F G j r d d2 xs k s) (hs : JsOk s) (hn : xs.length ≤ 999999000000) (t : Int) (e : En) (he : e.ok) (h1 : JTo w F j d (if addX s t e = 0 then xs ++ putN 8 (recE t e) else xs) k (addS s t e) w1) (hf : Fr No w1 W) :
    Calls Try.prog 29 #[.pointer (some ⟨r, 0, none⟩), .int .i64 t, e.v] W fun x w' => x = .returned (.int .i64 (addX s t e)) ∧ Fr (fun i => F i ∨ G i) w w' ∧ PJTo w0 w' j r (xs.length + 200) :=
  (rj_Append ((h.mid h1).1.frNo hf) hs.few t e he (by omega)).mono fun _ w' ⟨e1, e2⟩ => ⟨e1, h.ends (hs.add t e) (add_len t e he) h1 hf e2⟩
theorem rterm (h : RJAt w G r d2 xs k s) : w.cell? ⟨r, 1, none⟩ = some (.int .i64 s.term) := by
  obtain ⟨v, Fd, h1, _⟩ := h
  exact h1.cell 1
theorem addS_term (s : Js) (t : Int) (e : En) : (addS s t e).term = s.term := by unfold addS; split <;> rfl
theorem pAdd_r2 (h : PJ w0 w F G j r d d2 xs k s) (hs : JsOk s) (hn : xs.length ≤ 999999000000) (t : Int) (e : En) (he : e.ok) (h1 : JTo w F j d (if addX s t e = 0 then xs ++ putN 8 (recE t e) else xs) k (addS s t e) w1) (hf : Fr No w1 W) :
    Calls Try.prog 29 #[.pointer (some ⟨r, 0, none⟩), .int .i64 t, e.v] W fun x w' => x = .returned (.int .i64 (addX s t e)) ∧ Fr (fun i => F i ∨ G i) w w' ∧ w'.cell? ⟨r, 1, none⟩ = some (.int .i64 s.term) ∧ PJTo w0 w' j r (xs.length + 200) :=
  (rj_Append ((h.mid h1).1.frNo hf) hs.few t e he (by omega)).mono fun _ w' ⟨e1, e2⟩ => ⟨e1, (h.ends (hs.add t e) (add_len t e he) h1 hf e2).1, by
    obtain ⟨G', b1, _, _⟩ := e2
    rw [rterm b1, addS_term], (h.ends (hs.add t e) (add_len t e he) h1 hf e2).2⟩
theorem pCut_j (h : PJ w0 w F G j r d d2 xs k s) (hs : JsOk s) (hn : xs.length ≤ 999999000000) (c : Int) (hf : Fr No w W) :
    Calls Try.prog 36 #[.pointer (some ⟨j, 0, none⟩), .int .i64 c] W fun x w' => x = .returned (.int .i64 (cutX s c)) ∧ JTo w F j d (if cutX s c = 0 then xs ++ putN 8 (recC c) else xs) k (cutS s c) w' :=
  (j_Cut (h.jn.frNo hf) c hs.few (by omega)).mono fun e w' ⟨e1, e2⟩ => ⟨e1, JTo.after hf e2⟩
theorem pCut_r (h : PJ w0 w F G j r d d2 xs k s) (hs : JsOk s) (hn : xs.length ≤ 999999000000) (c : Int) (h1 : JTo w F j d (if cutX s c = 0 then xs ++ putN 8 (recC c) else xs) k (cutS s c) w1) (hf : Fr No w1 W) :
    Calls Try.prog 30 #[.pointer (some ⟨r, 0, none⟩), .int .i64 c] W fun x w' => x = .returned (.int .i64 (cutX s c)) ∧ Fr (fun i => F i ∨ G i) w w' ∧ PJTo w0 w' j r (xs.length + 200) :=
  (rj_Cut ((h.mid h1).1.frNo hf) c hs.few (by omega)).mono fun _ w' ⟨e1, e2⟩ => ⟨e1, h.ends (hs.cut c) (cut_len hs c) h1 hf e2⟩
theorem pSync_j (h : PJ w0 w F G j r d d2 xs k s) (hf : Fr No w W) :
    Calls Try.prog 20 #[.pointer (some ⟨j, 0, none⟩)] W fun x w' => x = .returned (.tuple #[]) ∧ JTo w F j d xs xs.length s w' :=
  (j_sync (h.jn.frNo hf)).mono fun e w' ⟨e1, e2⟩ => ⟨e1, JTo.after hf e2⟩
theorem pSync_r (h : PJ w0 w F G j r d d2 xs k s) (hs : JsOk s) (h1 : JTo w F j d xs xs.length s w1) (hf : Fr No w1 W) :
    Calls Try.prog 53 #[.pointer (some ⟨r, 0, none⟩)] W fun x w' => x = .returned (.tuple #[]) ∧ Fr (fun i => F i ∨ G i) w w' ∧ PJTo w0 w' j r (xs.length + 200) :=
  (rj_sync ((h.mid h1).1.frNo hf)).mono fun _ w' ⟨e1, e2⟩ => ⟨e1, h.ends hs (by omega) h1 hf e2⟩
theorem pCrash_j (h : PJ w0 w F G j r d d2 xs k s) (c : Int) (hf : Fr No w W) :
    Calls Try.prog 11 #[.pointer (some ⟨j, 0, none⟩), .int .i64 c] W fun x w' => x = .returned (.tuple #[]) ∧ JTo w F j d ((xs.take (crashN xs.length k c)).take (playJ (xs.take (crashN xs.length k c))).1) (min (crashN xs.length k c) (playJ (xs.take (crashN xs.length k c))).1) (playJ (xs.take (crashN xs.length k c))).2 w' :=
  (j_crash (h.jn.frNo hf) c).mono fun e w' ⟨e1, e2⟩ => ⟨e1, JTo.after hf e2⟩
theorem pCrash_r (h : PJ w0 w F G j r d d2 xs k s) (hn : xs.length ≤ 999999000000) (c : Int) (h1 : JTo w F j d ((xs.take (crashN xs.length k c)).take (playJ (xs.take (crashN xs.length k c))).1) (min (crashN xs.length k c) (playJ (xs.take (crashN xs.length k c))).1) (playJ (xs.take (crashN xs.length k c))).2 w1) (hf : Fr No w1 W) :
    Calls Try.prog 54 #[.pointer (some ⟨r, 0, none⟩), .int .i64 c] W fun x w' => x = .returned (.tuple #[]) ∧ Fr (fun i => F i ∨ G i) w w' ∧ PJTo w0 w' j r (xs.length + 200) :=
  (rj_crash ((h.mid h1).1.frNo hf) c (by omega)).mono fun _ w' ⟨e1, e2⟩ => ⟨e1, h.ends ⟨playJ_len _, (playJ_term _).1, (playJ_term _).2⟩ (by simp only [List.length_take]; omega) h1 hf e2⟩
theorem pSame (h : PJTo w0 w j r n) :
    Calls Try.prog 32 #[.pointer (some ⟨j, 0, none⟩), .pointer (some ⟨r, 0, none⟩)] w fun x w' => x = .returned (.bool true) ∧ PJTo w0 w' j r n := by
  have h0 := h
  obtain ⟨F, G, d, d2, xs, k, s, h1, h2, h3⟩ := h
  exact (same8_any h1.jn h1.rf h2.few).mono fun _ w' ⟨e1, e2⟩ => ⟨e1, h0.frNo e2⟩
end
end Go.Proofs.Ytoiiblopnchljaa
/- The walk of the law's 'both': acts [0, 1, 2, 9]. -/
namespace Go.Proofs.Ytoiiblopnchljaa
open Go.ChangeShapes Go.WideShapes Go.ChangeAt Go.RowKit
set_option linter.unusedVariables false

set_option maxRecDepth 100000 in
set_option maxHeartbeats 8000000 in
theorem both_0 {w0 w : World} {F G : Nat → Prop} {j r d d2 : Nat} {xs : List UInt8} {k : Nat} {s : Js} (h : PJ w0 w F G j r d d2 xs k s) (hs : JsOk s) (hn : xs.length ≤ 999999000000) (wh a b : Int) (hb : -9223372036854775808 ≤ b ∧ b ≤ 9223372036854775807) (hm : wh % 12 = 0) :
    Calls Try.prog 26 #[.pointer (some ⟨j, 0, none⟩), .pointer (some ⟨r, 0, none⟩), .agg #[.int .i64 wh, .int .i64 a, .int .i64 b]] w fun e w' => e = .returned (.bool true) ∧ PJTo w0 w' j r (xs.length + 200) := by
  have hM := fun W => mod_any wh 12 W (by decide) (by decide)
  simp only [hm] at hM
  clear hm
  have hjl := h.jn.lt
  have hrl := h.rf.lt
  have hlo := hs.lo
  have hhi := hs.hi
  have hfew := hs.few
  obtain ⟨W0, hW0⟩ : ∃ W0, W0 = w.alloc (.cells #[.int .i64 wh, .int .i64 a, .int .i64 b] 43) := ⟨_, rfl⟩
  have hbk : Blk W0 w.heap.size 43 #[.int .i64 wh, .int .i64 a, .int .i64 b] := by rw [hW0]; exact Blk.new _ _ _
  replace h := h.frNo (show Fr No w W0 by rw [hW0]; exact fr_alloc _ _)
  obtain ⟨g, hg⟩ : ∃ g, g = w.heap.size := ⟨_, rfl⟩
  rw [← hg] at hbk hjl hrl
  have hbx : ∀ V, Fr (fun i => F i ∨ G i) W0 V → V.cell? ⟨g, 0, none⟩ = some (.int .i64 wh) ∧ V.cell? ⟨g, 1, none⟩ = some (.int .i64 a) ∧ V.cell? ⟨g, 2, none⟩ = some (.int .i64 b) := fun V hV => let q := hbk.fr hV (fun hh => by
    rcases hh with hh | hh
    · have := hjl g hh; omega
    · have := hrl g hh; omega); ⟨q.cell 0, q.cell 1, q.cell 2⟩
  obtain ⟨Al, cl, Fd, r1, -, -, -, -, -, -, -, -, -, -, -, -⟩ := h.rf.open_
  have hrk : ∀ V, Fr No W0 V → V.cell? ⟨r, 1, none⟩ = some (.int .i64 s.term) ∧ V.cell? ⟨r, 3, none⟩ = some (.slice Al s.log.length cl) := fun V hV => let q := r1.fr hV (fun h => h); ⟨q.cell 1, q.cell 3⟩
  have hrr := r1.lt
  have hgl := hbk.lt
  clear r1 hjl hrl hbk
  have hJ := fun V (hf : Fr No W0 V) => pSet_j h hn a b hf
  have hR := fun V5 V (h5 : JTo W0 F j d (if setTermX s a b = 0 then xs ++ putN 8 (recT a b) else xs) k (setTermS s a b) V5) (hf : Fr No V5 V) => pSet_r h hs hn a b h5 hf
  have hw1 : IntKind.i64.wrap (s.term - 1) = s.term - 1 := IntWalk.i64_in _ (by omega)
  have hw2 : IntKind.i64.wrap (s.term + 2) = s.term + 2 := IntWalk.i64_in _ (by omega)
  have hw3 : IntKind.i64.wrap ((s.log.length : Int) + 1) = (s.log.length : Int) + 1 := IntWalk.i64_in _ (by omega)
  generalize s.term = tm at *
  generalize s.log.length = ll at *
  clear h hs
  have HM := Lib.hid hM
  have HBX := Lib.hid hbx
  have HRK := Lib.hid hrk
  have HW0 := Lib.hid hW0
  have HG := Lib.hid hg
  have HJ := Lib.hid hJ
  have HR := Lib.hid hR
  clear hM hbx hrk hW0 hg hJ hR
  go_enter Try.func26, Try.ntmps26
  go_wp2_with fail
  rw [← HG.out, ← HW0.out]
  go_region_held3 (fun V => (V.cell? ⟨g, 0, none⟩ = some (.int .i64 wh) ∧ V.cell? ⟨g, 1, none⟩ = some (.int .i64 a) ∧ V.cell? ⟨g, 2, none⟩ = some (.int .i64 b)) ∧ V.cell? ⟨r, 1, none⟩ = some (.int .i64 tm)) (exact ⟨HBX.out _ (Fr.mono (F := No) (by (repeat (with_reducible first | assumption | exact Fr.refl _ _ | refine Fr.alloc ?_ _ | refine Fr.drew ?_ | refine Fr.drewN ?_ _)); done) fun _ h => h.elim), (HRK.out _ (by (repeat (with_reducible first | assumption | exact Fr.refl _ _ | refine Fr.alloc ?_ _ | refine Fr.drew ?_ | refine Fr.drewN ?_ _)); done)).1⟩) (first
    | (go_at_call 19; refine (between_in _ _ _ _ (by omega) (by omega) (by omega)).mono ?_; rintro e w' ⟨x, rfl, -, -, rfl⟩))
  have F1 : Fr No W0 (W0.drew) := (Fr.refl _ _).drew
  obtain ⟨c0, c1, c2⟩ := HBX.out _ (F1.mono fun _ h => h.elim)
  obtain ⟨d1, d3⟩ := HRK.out _ F1
  generalize W0.drew = W1 at *
  have hgl1 := F1.size
  go_wp2_with fail
  refine (HM.out _).mono ?_
  rintro e w' ⟨rfl, rfl⟩
  go_wp2_with fail
  go_region_held3 (fun V => V.cell? ⟨g, 0, none⟩ = some (.int .i64 wh) ∧ V.cell? ⟨g, 1, none⟩ = some (.int .i64 a) ∧ V.cell? ⟨g, 2, none⟩ = some (.int .i64 b)) (first | exact q6 | exact q7 | exact q5 | (refine HBX.out _ (Fr.mono (F := No) ?_ fun _ h => h.elim); (repeat (with_reducible first | assumption | exact Fr.refl _ _ | refine Fr.alloc ?_ _ | refine Fr.drew ?_ | refine Fr.drewN ?_ _)); done)) (first
    | (go_at_call 18; refine (HJ.out _ (by (repeat (with_reducible first | assumption | exact Fr.refl _ _ | refine Fr.alloc ?_ _ | refine Fr.drew ?_ | refine Fr.drewN ?_ _)); done)).mono ?_; rintro e w5 ⟨rfl, j5⟩; have q5 := HBX.out _ (let ⟨_, _, _, g⟩ := j5; g.mono fun _ h => .inl h); have J5 := Lib.hid j5; clear j5)
    | (go_at_call 28; refine (HR.out _ _ J5.out (by (repeat (with_reducible first | assumption | exact Fr.refl _ _ | refine Fr.alloc ?_ _ | refine Fr.drew ?_ | refine Fr.drewN ?_ _)); done)).mono ?_; rintro e w6 ⟨rfl, f6, p6⟩; have q6 := HBX.out _ f6; have P6 := Lib.hid p6; clear p6 f6))
  all_goals
    go_wp2_with fail
    refine (pSame P6.out).mono ?_
    rintro e w9 ⟨rfl, p9⟩
    have P9 := Lib.hid p9
    clear p9
    go_wp2_with fail
    go_ret
    exact ⟨rfl, P9.out⟩

set_option maxRecDepth 100000 in
set_option maxHeartbeats 8000000 in
theorem both_1 {w0 w : World} {F G : Nat → Prop} {j r d d2 : Nat} {xs : List UInt8} {k : Nat} {s : Js} (h : PJ w0 w F G j r d d2 xs k s) (hs : JsOk s) (hn : xs.length ≤ 999999000000) (wh a b : Int) (hb : -9223372036854775808 ≤ b ∧ b ≤ 9223372036854775807) (hm : wh % 12 = 1) :
    Calls Try.prog 26 #[.pointer (some ⟨j, 0, none⟩), .pointer (some ⟨r, 0, none⟩), .agg #[.int .i64 wh, .int .i64 a, .int .i64 b]] w fun e w' => e = .returned (.bool true) ∧ PJTo w0 w' j r (xs.length + 200) := by
  have hM := fun W => mod_any wh 12 W (by decide) (by decide)
  simp only [hm] at hM
  clear hm
  have hjl := h.jn.lt
  have hrl := h.rf.lt
  have hlo := hs.lo
  have hhi := hs.hi
  have hfew := hs.few
  obtain ⟨W0, hW0⟩ : ∃ W0, W0 = w.alloc (.cells #[.int .i64 wh, .int .i64 a, .int .i64 b] 43) := ⟨_, rfl⟩
  have hbk : Blk W0 w.heap.size 43 #[.int .i64 wh, .int .i64 a, .int .i64 b] := by rw [hW0]; exact Blk.new _ _ _
  replace h := h.frNo (show Fr No w W0 by rw [hW0]; exact fr_alloc _ _)
  obtain ⟨g, hg⟩ : ∃ g, g = w.heap.size := ⟨_, rfl⟩
  rw [← hg] at hbk hjl hrl
  have hbx : ∀ V, Fr (fun i => F i ∨ G i) W0 V → V.cell? ⟨g, 0, none⟩ = some (.int .i64 wh) ∧ V.cell? ⟨g, 1, none⟩ = some (.int .i64 a) ∧ V.cell? ⟨g, 2, none⟩ = some (.int .i64 b) := fun V hV => let q := hbk.fr hV (fun hh => by
    rcases hh with hh | hh
    · have := hjl g hh; omega
    · have := hrl g hh; omega); ⟨q.cell 0, q.cell 1, q.cell 2⟩
  obtain ⟨Al, cl, Fd, r1, -, -, -, -, -, -, -, -, -, -, -, -⟩ := h.rf.open_
  have hrk : ∀ V, Fr No W0 V → V.cell? ⟨r, 1, none⟩ = some (.int .i64 s.term) ∧ V.cell? ⟨r, 3, none⟩ = some (.slice Al s.log.length cl) := fun V hV => let q := r1.fr hV (fun h => h); ⟨q.cell 1, q.cell 3⟩
  have hrr := r1.lt
  have hgl := hbk.lt
  clear r1 hjl hrl hbk
  have hJ := fun V t v (hf : Fr No W0 V) => pSet_j h hn t v hf
  have hR := fun V5 V t v (h5 : JTo W0 F j d (if setTermX s t v = 0 then xs ++ putN 8 (recT t v) else xs) k (setTermS s t v) V5) (hf : Fr No V5 V) => pSet_r h hs hn t v h5 hf
  have hw1 : IntKind.i64.wrap (s.term - 1) = s.term - 1 := IntWalk.i64_in _ (by omega)
  have hw2 : IntKind.i64.wrap (s.term + 2) = s.term + 2 := IntWalk.i64_in _ (by omega)
  have hw3 : IntKind.i64.wrap ((s.log.length : Int) + 1) = (s.log.length : Int) + 1 := IntWalk.i64_in _ (by omega)
  generalize s.term = tm at *
  generalize s.log.length = ll at *
  clear h hs
  have HM := Lib.hid hM
  have HBX := Lib.hid hbx
  have HRK := Lib.hid hrk
  have HW0 := Lib.hid hW0
  have HG := Lib.hid hg
  have HJ := Lib.hid hJ
  have HR := Lib.hid hR
  clear hM hbx hrk hW0 hg hJ hR
  go_enter Try.func26, Try.ntmps26
  go_wp2_with fail
  rw [← HG.out, ← HW0.out]
  go_region_held3 (fun V => (V.cell? ⟨g, 0, none⟩ = some (.int .i64 wh) ∧ V.cell? ⟨g, 1, none⟩ = some (.int .i64 a) ∧ V.cell? ⟨g, 2, none⟩ = some (.int .i64 b)) ∧ V.cell? ⟨r, 1, none⟩ = some (.int .i64 tm)) (exact ⟨HBX.out _ (Fr.mono (F := No) (by (repeat (with_reducible first | assumption | exact Fr.refl _ _ | refine Fr.alloc ?_ _ | refine Fr.drew ?_ | refine Fr.drewN ?_ _)); done) fun _ h => h.elim), (HRK.out _ (by (repeat (with_reducible first | assumption | exact Fr.refl _ _ | refine Fr.alloc ?_ _ | refine Fr.drew ?_ | refine Fr.drewN ?_ _)); done)).1⟩) (first
    | (go_at_call 19; refine (between_in _ _ _ _ (by omega) (by omega) (by omega)).mono ?_; rintro e w' ⟨x, rfl, -, -, rfl⟩))
  have F1 : Fr No W0 (W0.drew) := (Fr.refl _ _).drew
  obtain ⟨c0, c1, c2⟩ := HBX.out _ (F1.mono fun _ h => h.elim)
  obtain ⟨d1, d3⟩ := HRK.out _ F1
  generalize W0.drew = W1 at *
  have hgl1 := F1.size
  go_wp2_with fail
  refine (HM.out _).mono ?_
  rintro e w' ⟨rfl, rfl⟩
  go_wp2_with fail
  refine (between_in _ _ _ _ (by omega) (by omega) (by omega)).mono ?_
  rintro e w' ⟨y, rfl, -, -, rfl⟩
  go_wp2_with fail
  refine (HJ.out _ x y F1).mono ?_
  rintro e w5 ⟨rfl, j5⟩
  have J5 := Lib.hid j5
  clear j5
  go_wp2_with fail
  refine (HR.out _ _ x y J5.out (Fr.refl _ _)).mono ?_
  rintro e w6 ⟨rfl, -, p6⟩
  have P6 := Lib.hid p6
  clear p6
  all_goals
    go_wp2_with fail
    refine (pSame P6.out).mono ?_
    rintro e w9 ⟨rfl, p9⟩
    have P9 := Lib.hid p9
    clear p9
    go_wp2_with fail
    go_ret
    exact ⟨rfl, P9.out⟩

set_option maxRecDepth 100000 in
set_option maxHeartbeats 8000000 in
theorem both_2 {w0 w : World} {F G : Nat → Prop} {j r d d2 : Nat} {xs : List UInt8} {k : Nat} {s : Js} (h : PJ w0 w F G j r d d2 xs k s) (hs : JsOk s) (hn : xs.length ≤ 999999000000) (wh a b : Int) (hb : -9223372036854775808 ≤ b ∧ b ≤ 9223372036854775807) (hm : wh % 12 = 2) :
    Calls Try.prog 26 #[.pointer (some ⟨j, 0, none⟩), .pointer (some ⟨r, 0, none⟩), .agg #[.int .i64 wh, .int .i64 a, .int .i64 b]] w fun e w' => e = .returned (.bool true) ∧ PJTo w0 w' j r (xs.length + 200) := by
  have hM := fun W => mod_any wh 12 W (by decide) (by decide)
  simp only [hm] at hM
  clear hm
  have hjl := h.jn.lt
  have hrl := h.rf.lt
  have hlo := hs.lo
  have hhi := hs.hi
  have hfew := hs.few
  obtain ⟨W0, hW0⟩ : ∃ W0, W0 = w.alloc (.cells #[.int .i64 wh, .int .i64 a, .int .i64 b] 43) := ⟨_, rfl⟩
  have hbk : Blk W0 w.heap.size 43 #[.int .i64 wh, .int .i64 a, .int .i64 b] := by rw [hW0]; exact Blk.new _ _ _
  replace h := h.frNo (show Fr No w W0 by rw [hW0]; exact fr_alloc _ _)
  obtain ⟨g, hg⟩ : ∃ g, g = w.heap.size := ⟨_, rfl⟩
  rw [← hg] at hbk hjl hrl
  have hbx : ∀ V, Fr (fun i => F i ∨ G i) W0 V → V.cell? ⟨g, 0, none⟩ = some (.int .i64 wh) ∧ V.cell? ⟨g, 1, none⟩ = some (.int .i64 a) ∧ V.cell? ⟨g, 2, none⟩ = some (.int .i64 b) := fun V hV => let q := hbk.fr hV (fun hh => by
    rcases hh with hh | hh
    · have := hjl g hh; omega
    · have := hrl g hh; omega); ⟨q.cell 0, q.cell 1, q.cell 2⟩
  obtain ⟨Al, cl, Fd, r1, -, -, -, -, -, -, -, -, -, -, -, -⟩ := h.rf.open_
  have hrk : ∀ V, Fr No W0 V → V.cell? ⟨r, 1, none⟩ = some (.int .i64 s.term) ∧ V.cell? ⟨r, 3, none⟩ = some (.slice Al s.log.length cl) := fun V hV => let q := r1.fr hV (fun h => h); ⟨q.cell 1, q.cell 3⟩
  have hrr := r1.lt
  have hgl := hbk.lt
  clear r1 hjl hrl hbk
  have hJ := fun V t v (hf : Fr No W0 V) => pSet_j h hn t v hf
  have hR := fun V5 V t v (h5 : JTo W0 F j d (if setTermX s t v = 0 then xs ++ putN 8 (recT t v) else xs) k (setTermS s t v) V5) (hf : Fr No V5 V) => pSet_r h hs hn t v h5 hf
  have hw1 : IntKind.i64.wrap (s.term - 1) = s.term - 1 := IntWalk.i64_in _ (by omega)
  have hw2 : IntKind.i64.wrap (s.term + 2) = s.term + 2 := IntWalk.i64_in _ (by omega)
  have hw3 : IntKind.i64.wrap ((s.log.length : Int) + 1) = (s.log.length : Int) + 1 := IntWalk.i64_in _ (by omega)
  generalize s.term = tm at *
  generalize s.log.length = ll at *
  clear h hs
  have HM := Lib.hid hM
  have HBX := Lib.hid hbx
  have HRK := Lib.hid hrk
  have HW0 := Lib.hid hW0
  have HG := Lib.hid hg
  have HJ := Lib.hid hJ
  have HR := Lib.hid hR
  clear hM hbx hrk hW0 hg hJ hR
  go_enter Try.func26, Try.ntmps26
  go_wp2_with fail
  rw [← HG.out, ← HW0.out]
  go_region_held3 (fun V => (V.cell? ⟨g, 0, none⟩ = some (.int .i64 wh) ∧ V.cell? ⟨g, 1, none⟩ = some (.int .i64 a) ∧ V.cell? ⟨g, 2, none⟩ = some (.int .i64 b)) ∧ V.cell? ⟨r, 1, none⟩ = some (.int .i64 tm)) (exact ⟨HBX.out _ (Fr.mono (F := No) (by (repeat (with_reducible first | assumption | exact Fr.refl _ _ | refine Fr.alloc ?_ _ | refine Fr.drew ?_ | refine Fr.drewN ?_ _)); done) fun _ h => h.elim), (HRK.out _ (by (repeat (with_reducible first | assumption | exact Fr.refl _ _ | refine Fr.alloc ?_ _ | refine Fr.drew ?_ | refine Fr.drewN ?_ _)); done)).1⟩) (first
    | (go_at_call 19; refine (between_in _ _ _ _ (by omega) (by omega) (by omega)).mono ?_; rintro e w' ⟨x, rfl, -, -, rfl⟩))
  have F1 : Fr No W0 (W0.drew) := (Fr.refl _ _).drew
  obtain ⟨c0, c1, c2⟩ := HBX.out _ (F1.mono fun _ h => h.elim)
  obtain ⟨d1, d3⟩ := HRK.out _ F1
  generalize W0.drew = W1 at *
  have hgl1 := F1.size
  go_wp2_with fail
  refine (HM.out _).mono ?_
  rintro e w' ⟨rfl, rfl⟩
  go_wp2_with fail
  refine (between_in _ _ _ _ (by omega) (by omega) (by omega)).mono ?_
  rintro e w' ⟨y, rfl, -, -, rfl⟩
  go_wp2_with fail
  refine (HJ.out _ x y F1).mono ?_
  rintro e w5 ⟨rfl, j5⟩
  have J5 := Lib.hid j5
  clear j5
  go_wp2_with fail
  refine (HR.out _ _ x y J5.out (Fr.refl _ _)).mono ?_
  rintro e w6 ⟨rfl, -, p6⟩
  have P6 := Lib.hid p6
  clear p6
  all_goals
    go_wp2_with fail
    refine (pSame P6.out).mono ?_
    rintro e w9 ⟨rfl, p9⟩
    have P9 := Lib.hid p9
    clear p9
    go_wp2_with fail
    go_ret
    exact ⟨rfl, P9.out⟩

set_option maxRecDepth 100000 in
set_option maxHeartbeats 8000000 in
theorem both_9 {w0 w : World} {F G : Nat → Prop} {j r d d2 : Nat} {xs : List UInt8} {k : Nat} {s : Js} (h : PJ w0 w F G j r d d2 xs k s) (hs : JsOk s) (hn : xs.length ≤ 999999000000) (wh a b : Int) (hb : -9223372036854775808 ≤ b ∧ b ≤ 9223372036854775807) (hm : wh % 12 = 9) :
    Calls Try.prog 26 #[.pointer (some ⟨j, 0, none⟩), .pointer (some ⟨r, 0, none⟩), .agg #[.int .i64 wh, .int .i64 a, .int .i64 b]] w fun e w' => e = .returned (.bool true) ∧ PJTo w0 w' j r (xs.length + 200) := by
  have hM := fun W => mod_any wh 12 W (by decide) (by decide)
  simp only [hm] at hM
  clear hm
  have hjl := h.jn.lt
  have hrl := h.rf.lt
  have hlo := hs.lo
  have hhi := hs.hi
  have hfew := hs.few
  obtain ⟨W0, hW0⟩ : ∃ W0, W0 = w.alloc (.cells #[.int .i64 wh, .int .i64 a, .int .i64 b] 43) := ⟨_, rfl⟩
  have hbk : Blk W0 w.heap.size 43 #[.int .i64 wh, .int .i64 a, .int .i64 b] := by rw [hW0]; exact Blk.new _ _ _
  replace h := h.frNo (show Fr No w W0 by rw [hW0]; exact fr_alloc _ _)
  obtain ⟨g, hg⟩ : ∃ g, g = w.heap.size := ⟨_, rfl⟩
  rw [← hg] at hbk hjl hrl
  have hbx : ∀ V, Fr (fun i => F i ∨ G i) W0 V → V.cell? ⟨g, 0, none⟩ = some (.int .i64 wh) ∧ V.cell? ⟨g, 1, none⟩ = some (.int .i64 a) ∧ V.cell? ⟨g, 2, none⟩ = some (.int .i64 b) := fun V hV => let q := hbk.fr hV (fun hh => by
    rcases hh with hh | hh
    · have := hjl g hh; omega
    · have := hrl g hh; omega); ⟨q.cell 0, q.cell 1, q.cell 2⟩
  obtain ⟨Al, cl, Fd, r1, -, -, -, -, -, -, -, -, -, -, -, -⟩ := h.rf.open_
  have hrk : ∀ V, Fr No W0 V → V.cell? ⟨r, 1, none⟩ = some (.int .i64 s.term) ∧ V.cell? ⟨r, 3, none⟩ = some (.slice Al s.log.length cl) := fun V hV => let q := r1.fr hV (fun h => h); ⟨q.cell 1, q.cell 3⟩
  have hrr := r1.lt
  have hgl := hbk.lt
  clear r1 hjl hrl hbk
  have hJ := fun V (hf : Fr No W0 V) => pSync_j h hf
  have hR := fun V5 V (h5 : JTo W0 F j d xs xs.length s V5) (hf : Fr No V5 V) => pSync_r h hs h5 hf
  have hw1 : IntKind.i64.wrap (s.term - 1) = s.term - 1 := IntWalk.i64_in _ (by omega)
  have hw2 : IntKind.i64.wrap (s.term + 2) = s.term + 2 := IntWalk.i64_in _ (by omega)
  have hw3 : IntKind.i64.wrap ((s.log.length : Int) + 1) = (s.log.length : Int) + 1 := IntWalk.i64_in _ (by omega)
  generalize s.term = tm at *
  generalize s.log.length = ll at *
  clear h hs
  have HM := Lib.hid hM
  have HBX := Lib.hid hbx
  have HRK := Lib.hid hrk
  have HW0 := Lib.hid hW0
  have HG := Lib.hid hg
  have HJ := Lib.hid hJ
  have HR := Lib.hid hR
  clear hM hbx hrk hW0 hg hJ hR
  go_enter Try.func26, Try.ntmps26
  go_wp2_with fail
  rw [← HG.out, ← HW0.out]
  go_region_held3 (fun V => (V.cell? ⟨g, 0, none⟩ = some (.int .i64 wh) ∧ V.cell? ⟨g, 1, none⟩ = some (.int .i64 a) ∧ V.cell? ⟨g, 2, none⟩ = some (.int .i64 b)) ∧ V.cell? ⟨r, 1, none⟩ = some (.int .i64 tm)) (exact ⟨HBX.out _ (Fr.mono (F := No) (by (repeat (with_reducible first | assumption | exact Fr.refl _ _ | refine Fr.alloc ?_ _ | refine Fr.drew ?_ | refine Fr.drewN ?_ _)); done) fun _ h => h.elim), (HRK.out _ (by (repeat (with_reducible first | assumption | exact Fr.refl _ _ | refine Fr.alloc ?_ _ | refine Fr.drew ?_ | refine Fr.drewN ?_ _)); done)).1⟩) (first
    | (go_at_call 19; refine (between_in _ _ _ _ (by omega) (by omega) (by omega)).mono ?_; rintro e w' ⟨x, rfl, -, -, rfl⟩))
  have F1 : Fr No W0 (W0.drew) := (Fr.refl _ _).drew
  obtain ⟨c0, c1, c2⟩ := HBX.out _ (F1.mono fun _ h => h.elim)
  obtain ⟨d1, d3⟩ := HRK.out _ F1
  generalize W0.drew = W1 at *
  have hgl1 := F1.size
  go_wp2_with fail
  refine (HM.out _).mono ?_
  rintro e w' ⟨rfl, rfl⟩
  go_wp2_with fail
  refine (HJ.out _ F1).mono ?_
  rintro e w5 ⟨rfl, j5⟩
  have J5 := Lib.hid j5
  clear j5
  go_wp2_with fail
  refine (HR.out _ _ J5.out (Fr.refl _ _)).mono ?_
  rintro e w6 ⟨rfl, -, p6⟩
  have P6 := Lib.hid p6
  clear p6
  all_goals
    go_wp2_with fail
    refine (pSame P6.out).mono ?_
    rintro e w9 ⟨rfl, p9⟩
    have P9 := Lib.hid p9
    clear p9
    go_wp2_with fail
    go_ret
    exact ⟨rfl, P9.out⟩

end Go.Proofs.Ytoiiblopnchljaa
/- The walk of the law's 'both': acts [3, 4, 5, 6]. -/
namespace Go.Proofs.Ytoiiblopnchljaa
open Go.ChangeShapes Go.WideShapes Go.ChangeAt Go.RowKit
set_option linter.unusedVariables false

set_option maxRecDepth 100000 in
set_option maxHeartbeats 8000000 in
theorem both_3 {w0 w : World} {F G : Nat → Prop} {j r d d2 : Nat} {xs : List UInt8} {k : Nat} {s : Js} (h : PJ w0 w F G j r d d2 xs k s) (hs : JsOk s) (hn : xs.length ≤ 999999000000) (wh a b : Int) (hb : -9223372036854775808 ≤ b ∧ b ≤ 9223372036854775807) (hm : wh % 12 = 3) :
    Calls Try.prog 26 #[.pointer (some ⟨j, 0, none⟩), .pointer (some ⟨r, 0, none⟩), .agg #[.int .i64 wh, .int .i64 a, .int .i64 b]] w fun e w' => e = .returned (.bool true) ∧ PJTo w0 w' j r (xs.length + 200) := by
  have hM := fun W => mod_any wh 12 W (by decide) (by decide)
  simp only [hm] at hM
  clear hm
  have hjl := h.jn.lt
  have hrl := h.rf.lt
  have hlo := hs.lo
  have hhi := hs.hi
  have hfew := hs.few
  obtain ⟨W0, hW0⟩ : ∃ W0, W0 = w.alloc (.cells #[.int .i64 wh, .int .i64 a, .int .i64 b] 43) := ⟨_, rfl⟩
  have hbk : Blk W0 w.heap.size 43 #[.int .i64 wh, .int .i64 a, .int .i64 b] := by rw [hW0]; exact Blk.new _ _ _
  replace h := h.frNo (show Fr No w W0 by rw [hW0]; exact fr_alloc _ _)
  obtain ⟨g, hg⟩ : ∃ g, g = w.heap.size := ⟨_, rfl⟩
  rw [← hg] at hbk hjl hrl
  have hbx : ∀ V, Fr (fun i => F i ∨ G i) W0 V → V.cell? ⟨g, 0, none⟩ = some (.int .i64 wh) ∧ V.cell? ⟨g, 1, none⟩ = some (.int .i64 a) ∧ V.cell? ⟨g, 2, none⟩ = some (.int .i64 b) := fun V hV => let q := hbk.fr hV (fun hh => by
    rcases hh with hh | hh
    · have := hjl g hh; omega
    · have := hrl g hh; omega); ⟨q.cell 0, q.cell 1, q.cell 2⟩
  obtain ⟨Al, cl, Fd, r1, -, -, -, -, -, -, -, -, -, -, -, -⟩ := h.rf.open_
  have hrk : ∀ V, Fr No W0 V → V.cell? ⟨r, 1, none⟩ = some (.int .i64 s.term) ∧ V.cell? ⟨r, 3, none⟩ = some (.slice Al s.log.length cl) := fun V hV => let q := r1.fr hV (fun h => h); ⟨q.cell 1, q.cell 3⟩
  have hrr := r1.lt
  have hgl := hbk.lt
  clear r1 hjl hrl hbk
  have hN := fun V => note_any b V
  have h1000 := Int.emod_nonneg b (b := 1000) (by decide)
  have h1001 := Int.emod_lt_of_pos b (b := 1000) (by decide)
  have hok := noteE_ok (b % 1000) h1000 h1001
  have hJ := fun V t (hf : Fr No W0 V) => pAdd_j h hs hn t (noteE (b % 1000)) hok hf
  have hR := fun V5 V t (h5 : JTo W0 F j d (if addX s t (noteE (b % 1000)) = 0 then xs ++ putN 8 (recE t (noteE (b % 1000))) else xs) k (addS s t (noteE (b % 1000))) V5) (hf : Fr No V5 V) => pAdd_r h hs hn t (noteE (b % 1000)) hok h5 hf
  clear hok h1000 h1001
  generalize b % 1000 = bm at *
  have hEV : (noteE bm).v = .agg #[.int .i64 16, .int .i64 0, .int .i64 (-1), .int .i64 (-1), .int .i64 (-1), .int .i64 0, .int .i64 0, .int .i64 0, .int .i64 bm] := rfl
  simp only [hEV] at hN hJ hR
  clear hEV
  have hw1 : IntKind.i64.wrap (s.term - 1) = s.term - 1 := IntWalk.i64_in _ (by omega)
  have hw2 : IntKind.i64.wrap (s.term + 2) = s.term + 2 := IntWalk.i64_in _ (by omega)
  have hw3 : IntKind.i64.wrap ((s.log.length : Int) + 1) = (s.log.length : Int) + 1 := IntWalk.i64_in _ (by omega)
  generalize s.term = tm at *
  generalize s.log.length = ll at *
  clear h hs
  have HM := Lib.hid hM
  have HBX := Lib.hid hbx
  have HRK := Lib.hid hrk
  have HW0 := Lib.hid hW0
  have HG := Lib.hid hg
  have HJ := Lib.hid hJ
  have HR := Lib.hid hR
  have HN := Lib.hid hN
  clear hM hbx hrk hW0 hg hJ hR hN
  go_enter Try.func26, Try.ntmps26
  go_wp2_with fail
  rw [← HG.out, ← HW0.out]
  go_region_held3 (fun V => (V.cell? ⟨g, 0, none⟩ = some (.int .i64 wh) ∧ V.cell? ⟨g, 1, none⟩ = some (.int .i64 a) ∧ V.cell? ⟨g, 2, none⟩ = some (.int .i64 b)) ∧ V.cell? ⟨r, 1, none⟩ = some (.int .i64 tm)) (exact ⟨HBX.out _ (Fr.mono (F := No) (by (repeat (with_reducible first | assumption | exact Fr.refl _ _ | refine Fr.alloc ?_ _ | refine Fr.drew ?_ | refine Fr.drewN ?_ _)); done) fun _ h => h.elim), (HRK.out _ (by (repeat (with_reducible first | assumption | exact Fr.refl _ _ | refine Fr.alloc ?_ _ | refine Fr.drew ?_ | refine Fr.drewN ?_ _)); done)).1⟩) (first
    | (go_at_call 19; refine (between_in _ _ _ _ (by omega) (by omega) (by omega)).mono ?_; rintro e w' ⟨x, rfl, -, -, rfl⟩))
  have F1 : Fr No W0 (W0.drew) := (Fr.refl _ _).drew
  obtain ⟨c0, c1, c2⟩ := HBX.out _ (F1.mono fun _ h => h.elim)
  obtain ⟨d1, d3⟩ := HRK.out _ F1
  generalize W0.drew = W1 at *
  have hgl1 := F1.size
  go_wp2_with fail
  refine (HM.out _).mono ?_
  rintro e w' ⟨rfl, rfl⟩
  go_wp2_with fail
  go_region_held3 (fun V => V.cell? ⟨g, 0, none⟩ = some (.int .i64 wh) ∧ V.cell? ⟨g, 1, none⟩ = some (.int .i64 a) ∧ V.cell? ⟨g, 2, none⟩ = some (.int .i64 b)) (first | exact q6 | exact q7 | exact q5 | (refine HBX.out _ (Fr.mono (F := No) ?_ fun _ h => h.elim); (repeat (with_reducible first | assumption | exact Fr.refl _ _ | refine Fr.alloc ?_ _ | refine Fr.drew ?_ | refine Fr.drewN ?_ _)); done)) (first
    | (go_at_call 22; have j5 := J5.out; refine (HN.out _).mono ?_; rintro e w7 ⟨rfl, f7⟩; have j7 := JTo.quiet j5 f7; have q7 := HBX.out _ (let ⟨_, _, _, g⟩ := j7; g.mono fun _ h => .inl h); have J7 := Lib.hid j7; clear f7 j7 j5)
    | (go_at_call 22; refine (HN.out _).mono ?_; rintro e w4 ⟨rfl, f4⟩; have F4 : Fr No W0 w4 := Fr.transNo (by (repeat (with_reducible first | assumption | exact Fr.refl _ _ | refine Fr.alloc ?_ _ | refine Fr.drew ?_ | refine Fr.drewN ?_ _)); done) f4; clear f4)
    | (go_at_call 21; refine (HJ.out _ _ (by (repeat (with_reducible first | assumption | exact Fr.refl _ _ | refine Fr.alloc ?_ _ | refine Fr.drew ?_ | refine Fr.drewN ?_ _)); done)).mono ?_; rintro e w5 ⟨rfl, j5⟩; have q5 := HBX.out _ (let ⟨_, _, _, g⟩ := j5; g.mono fun _ h => .inl h); have J5 := Lib.hid j5; clear j5)
    | (go_at_call 29; refine (HR.out _ _ _ J7.out (by (repeat (with_reducible first | assumption | exact Fr.refl _ _ | refine Fr.alloc ?_ _ | refine Fr.drew ?_ | refine Fr.drewN ?_ _)); done)).mono ?_; rintro e w6 ⟨rfl, f6, p6⟩; have q6 := HBX.out _ f6; have P6 := Lib.hid p6; clear p6 f6))
  all_goals
    go_wp2_with fail
    refine (pSame P6.out).mono ?_
    rintro e w9 ⟨rfl, p9⟩
    have P9 := Lib.hid p9
    clear p9
    go_wp2_with fail
    go_ret
    exact ⟨rfl, P9.out⟩

set_option maxRecDepth 100000 in
set_option maxHeartbeats 8000000 in
theorem both_4 {w0 w : World} {F G : Nat → Prop} {j r d d2 : Nat} {xs : List UInt8} {k : Nat} {s : Js} (h : PJ w0 w F G j r d d2 xs k s) (hs : JsOk s) (hn : xs.length ≤ 999999000000) (wh a b : Int) (hb : -9223372036854775808 ≤ b ∧ b ≤ 9223372036854775807) (hm : wh % 12 = 4) :
    Calls Try.prog 26 #[.pointer (some ⟨j, 0, none⟩), .pointer (some ⟨r, 0, none⟩), .agg #[.int .i64 wh, .int .i64 a, .int .i64 b]] w fun e w' => e = .returned (.bool true) ∧ PJTo w0 w' j r (xs.length + 200) := by
  have hM := fun W => mod_any wh 12 W (by decide) (by decide)
  simp only [hm] at hM
  clear hm
  have hjl := h.jn.lt
  have hrl := h.rf.lt
  have hlo := hs.lo
  have hhi := hs.hi
  have hfew := hs.few
  obtain ⟨W0, hW0⟩ : ∃ W0, W0 = w.alloc (.cells #[.int .i64 wh, .int .i64 a, .int .i64 b] 43) := ⟨_, rfl⟩
  have hbk : Blk W0 w.heap.size 43 #[.int .i64 wh, .int .i64 a, .int .i64 b] := by rw [hW0]; exact Blk.new _ _ _
  replace h := h.frNo (show Fr No w W0 by rw [hW0]; exact fr_alloc _ _)
  obtain ⟨g, hg⟩ : ∃ g, g = w.heap.size := ⟨_, rfl⟩
  rw [← hg] at hbk hjl hrl
  have hbx : ∀ V, Fr (fun i => F i ∨ G i) W0 V → V.cell? ⟨g, 0, none⟩ = some (.int .i64 wh) ∧ V.cell? ⟨g, 1, none⟩ = some (.int .i64 a) ∧ V.cell? ⟨g, 2, none⟩ = some (.int .i64 b) := fun V hV => let q := hbk.fr hV (fun hh => by
    rcases hh with hh | hh
    · have := hjl g hh; omega
    · have := hrl g hh; omega); ⟨q.cell 0, q.cell 1, q.cell 2⟩
  obtain ⟨Al, cl, Fd, r1, -, -, -, -, -, -, -, -, -, -, -, -⟩ := h.rf.open_
  have hrk : ∀ V, Fr No W0 V → V.cell? ⟨r, 1, none⟩ = some (.int .i64 s.term) ∧ V.cell? ⟨r, 3, none⟩ = some (.slice Al s.log.length cl) := fun V hV => let q := r1.fr hV (fun h => h); ⟨q.cell 1, q.cell 3⟩
  have hrr := r1.lt
  have hgl := hbk.lt
  clear r1 hjl hrl hbk
  have hN := fun V => note_any b V
  have h1000 := Int.emod_nonneg b (b := 1000) (by decide)
  have h1001 := Int.emod_lt_of_pos b (b := 1000) (by decide)
  have hok := noteE_ok (b % 1000) h1000 h1001
  have hJ := fun V t (hf : Fr No W0 V) => pAdd_j h hs hn t (noteE (b % 1000)) hok hf
  have hR := fun V5 V t (h5 : JTo W0 F j d (if addX s t (noteE (b % 1000)) = 0 then xs ++ putN 8 (recE t (noteE (b % 1000))) else xs) k (addS s t (noteE (b % 1000))) V5) (hf : Fr No V5 V) => pAdd_r h hs hn t (noteE (b % 1000)) hok h5 hf
  clear hok h1000 h1001
  generalize b % 1000 = bm at *
  have hEV : (noteE bm).v = .agg #[.int .i64 16, .int .i64 0, .int .i64 (-1), .int .i64 (-1), .int .i64 (-1), .int .i64 0, .int .i64 0, .int .i64 0, .int .i64 bm] := rfl
  simp only [hEV] at hN hJ hR
  clear hEV
  have hw1 : IntKind.i64.wrap (s.term - 1) = s.term - 1 := IntWalk.i64_in _ (by omega)
  have hw2 : IntKind.i64.wrap (s.term + 2) = s.term + 2 := IntWalk.i64_in _ (by omega)
  have hw3 : IntKind.i64.wrap ((s.log.length : Int) + 1) = (s.log.length : Int) + 1 := IntWalk.i64_in _ (by omega)
  generalize s.term = tm at *
  generalize s.log.length = ll at *
  clear h hs
  have HM := Lib.hid hM
  have HBX := Lib.hid hbx
  have HRK := Lib.hid hrk
  have HW0 := Lib.hid hW0
  have HG := Lib.hid hg
  have HJ := Lib.hid hJ
  have HR := Lib.hid hR
  have HN := Lib.hid hN
  clear hM hbx hrk hW0 hg hJ hR hN
  go_enter Try.func26, Try.ntmps26
  go_wp2_with fail
  rw [← HG.out, ← HW0.out]
  go_region_held3 (fun V => (V.cell? ⟨g, 0, none⟩ = some (.int .i64 wh) ∧ V.cell? ⟨g, 1, none⟩ = some (.int .i64 a) ∧ V.cell? ⟨g, 2, none⟩ = some (.int .i64 b)) ∧ V.cell? ⟨r, 1, none⟩ = some (.int .i64 tm)) (exact ⟨HBX.out _ (Fr.mono (F := No) (by (repeat (with_reducible first | assumption | exact Fr.refl _ _ | refine Fr.alloc ?_ _ | refine Fr.drew ?_ | refine Fr.drewN ?_ _)); done) fun _ h => h.elim), (HRK.out _ (by (repeat (with_reducible first | assumption | exact Fr.refl _ _ | refine Fr.alloc ?_ _ | refine Fr.drew ?_ | refine Fr.drewN ?_ _)); done)).1⟩) (first
    | (go_at_call 19; refine (between_in _ _ _ _ (by omega) (by omega) (by omega)).mono ?_; rintro e w' ⟨x, rfl, -, -, rfl⟩))
  have F1 : Fr No W0 (W0.drew) := (Fr.refl _ _).drew
  obtain ⟨c0, c1, c2⟩ := HBX.out _ (F1.mono fun _ h => h.elim)
  obtain ⟨d1, d3⟩ := HRK.out _ F1
  generalize W0.drew = W1 at *
  have hgl1 := F1.size
  go_wp2_with fail
  refine (HM.out _).mono ?_
  rintro e w' ⟨rfl, rfl⟩
  go_wp2_with fail
  go_region_held3 (fun V => V.cell? ⟨g, 0, none⟩ = some (.int .i64 wh) ∧ V.cell? ⟨g, 1, none⟩ = some (.int .i64 a) ∧ V.cell? ⟨g, 2, none⟩ = some (.int .i64 b)) (first | exact q6 | exact q7 | exact q5 | (refine HBX.out _ (Fr.mono (F := No) ?_ fun _ h => h.elim); (repeat (with_reducible first | assumption | exact Fr.refl _ _ | refine Fr.alloc ?_ _ | refine Fr.drew ?_ | refine Fr.drewN ?_ _)); done)) (first
    | (go_at_call 22; have j5 := J5.out; refine (HN.out _).mono ?_; rintro e w7 ⟨rfl, f7⟩; have j7 := JTo.quiet j5 f7; have q7 := HBX.out _ (let ⟨_, _, _, g⟩ := j7; g.mono fun _ h => .inl h); have J7 := Lib.hid j7; clear f7 j7 j5)
    | (go_at_call 22; refine (HN.out _).mono ?_; rintro e w4 ⟨rfl, f4⟩; have F4 : Fr No W0 w4 := Fr.transNo (by (repeat (with_reducible first | assumption | exact Fr.refl _ _ | refine Fr.alloc ?_ _ | refine Fr.drew ?_ | refine Fr.drewN ?_ _)); done) f4; clear f4)
    | (go_at_call 21; refine (HJ.out _ _ (by (repeat (with_reducible first | assumption | exact Fr.refl _ _ | refine Fr.alloc ?_ _ | refine Fr.drew ?_ | refine Fr.drewN ?_ _)); done)).mono ?_; rintro e w5 ⟨rfl, j5⟩; have q5 := HBX.out _ (let ⟨_, _, _, g⟩ := j5; g.mono fun _ h => .inl h); have J5 := Lib.hid j5; clear j5)
    | (go_at_call 29; refine (HR.out _ _ _ J7.out (by (repeat (with_reducible first | assumption | exact Fr.refl _ _ | refine Fr.alloc ?_ _ | refine Fr.drew ?_ | refine Fr.drewN ?_ _)); done)).mono ?_; rintro e w6 ⟨rfl, f6, p6⟩; have q6 := HBX.out _ f6; have P6 := Lib.hid p6; clear p6 f6))
  all_goals
    go_wp2_with fail
    refine (pSame P6.out).mono ?_
    rintro e w9 ⟨rfl, p9⟩
    have P9 := Lib.hid p9
    clear p9
    go_wp2_with fail
    go_ret
    exact ⟨rfl, P9.out⟩

set_option maxRecDepth 100000 in
set_option maxHeartbeats 8000000 in
theorem both_5 {w0 w : World} {F G : Nat → Prop} {j r d d2 : Nat} {xs : List UInt8} {k : Nat} {s : Js} (h : PJ w0 w F G j r d d2 xs k s) (hs : JsOk s) (hn : xs.length ≤ 999999000000) (wh a b : Int) (hb : -9223372036854775808 ≤ b ∧ b ≤ 9223372036854775807) (hm : wh % 12 = 5) :
    Calls Try.prog 26 #[.pointer (some ⟨j, 0, none⟩), .pointer (some ⟨r, 0, none⟩), .agg #[.int .i64 wh, .int .i64 a, .int .i64 b]] w fun e w' => e = .returned (.bool true) ∧ PJTo w0 w' j r (xs.length + 200) := by
  have hM := fun W => mod_any wh 12 W (by decide) (by decide)
  simp only [hm] at hM
  clear hm
  have hjl := h.jn.lt
  have hrl := h.rf.lt
  have hlo := hs.lo
  have hhi := hs.hi
  have hfew := hs.few
  obtain ⟨W0, hW0⟩ : ∃ W0, W0 = w.alloc (.cells #[.int .i64 wh, .int .i64 a, .int .i64 b] 43) := ⟨_, rfl⟩
  have hbk : Blk W0 w.heap.size 43 #[.int .i64 wh, .int .i64 a, .int .i64 b] := by rw [hW0]; exact Blk.new _ _ _
  replace h := h.frNo (show Fr No w W0 by rw [hW0]; exact fr_alloc _ _)
  obtain ⟨g, hg⟩ : ∃ g, g = w.heap.size := ⟨_, rfl⟩
  rw [← hg] at hbk hjl hrl
  have hbx : ∀ V, Fr (fun i => F i ∨ G i) W0 V → V.cell? ⟨g, 0, none⟩ = some (.int .i64 wh) ∧ V.cell? ⟨g, 1, none⟩ = some (.int .i64 a) ∧ V.cell? ⟨g, 2, none⟩ = some (.int .i64 b) := fun V hV => let q := hbk.fr hV (fun hh => by
    rcases hh with hh | hh
    · have := hjl g hh; omega
    · have := hrl g hh; omega); ⟨q.cell 0, q.cell 1, q.cell 2⟩
  obtain ⟨Al, cl, Fd, r1, -, -, -, -, -, -, -, -, -, -, -, -⟩ := h.rf.open_
  have hrk : ∀ V, Fr No W0 V → V.cell? ⟨r, 1, none⟩ = some (.int .i64 s.term) ∧ V.cell? ⟨r, 3, none⟩ = some (.slice Al s.log.length cl) := fun V hV => let q := r1.fr hV (fun h => h); ⟨q.cell 1, q.cell 3⟩
  have hrr := r1.lt
  have hgl := hbk.lt
  clear r1 hjl hrl hbk
  have hN := fun V => note_any b V
  have h1000 := Int.emod_nonneg b (b := 1000) (by decide)
  have h1001 := Int.emod_lt_of_pos b (b := 1000) (by decide)
  have hok := noteE_ok (b % 1000) h1000 h1001
  have hJ := fun V t (hf : Fr No W0 V) => pAdd_j h hs hn t (noteE (b % 1000)) hok hf
  have hR := fun V5 V t (h5 : JTo W0 F j d (if addX s t (noteE (b % 1000)) = 0 then xs ++ putN 8 (recE t (noteE (b % 1000))) else xs) k (addS s t (noteE (b % 1000))) V5) (hf : Fr No V5 V) => pAdd_r h hs hn t (noteE (b % 1000)) hok h5 hf
  clear hok h1000 h1001
  generalize b % 1000 = bm at *
  have hEV : (noteE bm).v = .agg #[.int .i64 16, .int .i64 0, .int .i64 (-1), .int .i64 (-1), .int .i64 (-1), .int .i64 0, .int .i64 0, .int .i64 0, .int .i64 bm] := rfl
  simp only [hEV] at hN hJ hR
  clear hEV
  have hw1 : IntKind.i64.wrap (s.term - 1) = s.term - 1 := IntWalk.i64_in _ (by omega)
  have hw2 : IntKind.i64.wrap (s.term + 2) = s.term + 2 := IntWalk.i64_in _ (by omega)
  have hw3 : IntKind.i64.wrap ((s.log.length : Int) + 1) = (s.log.length : Int) + 1 := IntWalk.i64_in _ (by omega)
  generalize s.term = tm at *
  generalize s.log.length = ll at *
  clear h hs
  have HM := Lib.hid hM
  have HBX := Lib.hid hbx
  have HRK := Lib.hid hrk
  have HW0 := Lib.hid hW0
  have HG := Lib.hid hg
  have HJ := Lib.hid hJ
  have HR := Lib.hid hR
  have HN := Lib.hid hN
  clear hM hbx hrk hW0 hg hJ hR hN
  go_enter Try.func26, Try.ntmps26
  go_wp2_with fail
  rw [← HG.out, ← HW0.out]
  go_region_held3 (fun V => (V.cell? ⟨g, 0, none⟩ = some (.int .i64 wh) ∧ V.cell? ⟨g, 1, none⟩ = some (.int .i64 a) ∧ V.cell? ⟨g, 2, none⟩ = some (.int .i64 b)) ∧ V.cell? ⟨r, 1, none⟩ = some (.int .i64 tm)) (exact ⟨HBX.out _ (Fr.mono (F := No) (by (repeat (with_reducible first | assumption | exact Fr.refl _ _ | refine Fr.alloc ?_ _ | refine Fr.drew ?_ | refine Fr.drewN ?_ _)); done) fun _ h => h.elim), (HRK.out _ (by (repeat (with_reducible first | assumption | exact Fr.refl _ _ | refine Fr.alloc ?_ _ | refine Fr.drew ?_ | refine Fr.drewN ?_ _)); done)).1⟩) (first
    | (go_at_call 19; refine (between_in _ _ _ _ (by omega) (by omega) (by omega)).mono ?_; rintro e w' ⟨x, rfl, -, -, rfl⟩))
  have F1 : Fr No W0 (W0.drew) := (Fr.refl _ _).drew
  obtain ⟨c0, c1, c2⟩ := HBX.out _ (F1.mono fun _ h => h.elim)
  obtain ⟨d1, d3⟩ := HRK.out _ F1
  generalize W0.drew = W1 at *
  have hgl1 := F1.size
  go_wp2_with fail
  refine (HM.out _).mono ?_
  rintro e w' ⟨rfl, rfl⟩
  go_wp2_with fail
  go_region_held3 (fun V => V.cell? ⟨g, 0, none⟩ = some (.int .i64 wh) ∧ V.cell? ⟨g, 1, none⟩ = some (.int .i64 a) ∧ V.cell? ⟨g, 2, none⟩ = some (.int .i64 b)) (first | exact q6 | exact q7 | exact q5 | (refine HBX.out _ (Fr.mono (F := No) ?_ fun _ h => h.elim); (repeat (with_reducible first | assumption | exact Fr.refl _ _ | refine Fr.alloc ?_ _ | refine Fr.drew ?_ | refine Fr.drewN ?_ _)); done)) (first
    | (go_at_call 22; have j5 := J5.out; refine (HN.out _).mono ?_; rintro e w7 ⟨rfl, f7⟩; have j7 := JTo.quiet j5 f7; have q7 := HBX.out _ (let ⟨_, _, _, g⟩ := j7; g.mono fun _ h => .inl h); have J7 := Lib.hid j7; clear f7 j7 j5)
    | (go_at_call 22; refine (HN.out _).mono ?_; rintro e w4 ⟨rfl, f4⟩; have F4 : Fr No W0 w4 := Fr.transNo (by (repeat (with_reducible first | assumption | exact Fr.refl _ _ | refine Fr.alloc ?_ _ | refine Fr.drew ?_ | refine Fr.drewN ?_ _)); done) f4; clear f4)
    | (go_at_call 21; refine (HJ.out _ _ (by (repeat (with_reducible first | assumption | exact Fr.refl _ _ | refine Fr.alloc ?_ _ | refine Fr.drew ?_ | refine Fr.drewN ?_ _)); done)).mono ?_; rintro e w5 ⟨rfl, j5⟩; have q5 := HBX.out _ (let ⟨_, _, _, g⟩ := j5; g.mono fun _ h => .inl h); have J5 := Lib.hid j5; clear j5)
    | (go_at_call 29; refine (HR.out _ _ _ J7.out (by (repeat (with_reducible first | assumption | exact Fr.refl _ _ | refine Fr.alloc ?_ _ | refine Fr.drew ?_ | refine Fr.drewN ?_ _)); done)).mono ?_; rintro e w6 ⟨rfl, f6, p6⟩; have q6 := HBX.out _ f6; have P6 := Lib.hid p6; clear p6 f6))
  all_goals
    go_wp2_with fail
    refine (pSame P6.out).mono ?_
    rintro e w9 ⟨rfl, p9⟩
    have P9 := Lib.hid p9
    clear p9
    go_wp2_with fail
    go_ret
    exact ⟨rfl, P9.out⟩

set_option maxRecDepth 100000 in
set_option maxHeartbeats 8000000 in
theorem both_6 {w0 w : World} {F G : Nat → Prop} {j r d d2 : Nat} {xs : List UInt8} {k : Nat} {s : Js} (h : PJ w0 w F G j r d d2 xs k s) (hs : JsOk s) (hn : xs.length ≤ 999999000000) (wh a b : Int) (hb : -9223372036854775808 ≤ b ∧ b ≤ 9223372036854775807) (hm : wh % 12 = 6) :
    Calls Try.prog 26 #[.pointer (some ⟨j, 0, none⟩), .pointer (some ⟨r, 0, none⟩), .agg #[.int .i64 wh, .int .i64 a, .int .i64 b]] w fun e w' => e = .returned (.bool true) ∧ PJTo w0 w' j r (xs.length + 200) := by
  have hM := fun W => mod_any wh 12 W (by decide) (by decide)
  simp only [hm] at hM
  clear hm
  have hjl := h.jn.lt
  have hrl := h.rf.lt
  have hlo := hs.lo
  have hhi := hs.hi
  have hfew := hs.few
  obtain ⟨W0, hW0⟩ : ∃ W0, W0 = w.alloc (.cells #[.int .i64 wh, .int .i64 a, .int .i64 b] 43) := ⟨_, rfl⟩
  have hbk : Blk W0 w.heap.size 43 #[.int .i64 wh, .int .i64 a, .int .i64 b] := by rw [hW0]; exact Blk.new _ _ _
  replace h := h.frNo (show Fr No w W0 by rw [hW0]; exact fr_alloc _ _)
  obtain ⟨g, hg⟩ : ∃ g, g = w.heap.size := ⟨_, rfl⟩
  rw [← hg] at hbk hjl hrl
  have hbx : ∀ V, Fr (fun i => F i ∨ G i) W0 V → V.cell? ⟨g, 0, none⟩ = some (.int .i64 wh) ∧ V.cell? ⟨g, 1, none⟩ = some (.int .i64 a) ∧ V.cell? ⟨g, 2, none⟩ = some (.int .i64 b) := fun V hV => let q := hbk.fr hV (fun hh => by
    rcases hh with hh | hh
    · have := hjl g hh; omega
    · have := hrl g hh; omega); ⟨q.cell 0, q.cell 1, q.cell 2⟩
  obtain ⟨Al, cl, Fd, r1, -, -, -, -, -, -, -, -, -, -, -, -⟩ := h.rf.open_
  have hrk : ∀ V, Fr No W0 V → V.cell? ⟨r, 1, none⟩ = some (.int .i64 s.term) ∧ V.cell? ⟨r, 3, none⟩ = some (.slice Al s.log.length cl) := fun V hV => let q := r1.fr hV (fun h => h); ⟨q.cell 1, q.cell 3⟩
  have hrr := r1.lt
  have hgl := hbk.lt
  clear r1 hjl hrl hbk
  have hN := fun V => note_any b V
  have h1000 := Int.emod_nonneg b (b := 1000) (by decide)
  have h1001 := Int.emod_lt_of_pos b (b := 1000) (by decide)
  have hok := noteE_ok (b % 1000) h1000 h1001
  have hJ := fun V t (hf : Fr No W0 V) => pAdd_j h hs hn t (noteE (b % 1000)) hok hf
  have hR := fun V5 V t (h5 : JTo W0 F j d (if addX s t (noteE (b % 1000)) = 0 then xs ++ putN 8 (recE t (noteE (b % 1000))) else xs) k (addS s t (noteE (b % 1000))) V5) (hf : Fr No V5 V) => pAdd_r h hs hn t (noteE (b % 1000)) hok h5 hf
  clear hok h1000 h1001
  generalize b % 1000 = bm at *
  have hEV : (noteE bm).v = .agg #[.int .i64 16, .int .i64 0, .int .i64 (-1), .int .i64 (-1), .int .i64 (-1), .int .i64 0, .int .i64 0, .int .i64 0, .int .i64 bm] := rfl
  simp only [hEV] at hN hJ hR
  clear hEV
  have hw1 : IntKind.i64.wrap (s.term - 1) = s.term - 1 := IntWalk.i64_in _ (by omega)
  have hw2 : IntKind.i64.wrap (s.term + 2) = s.term + 2 := IntWalk.i64_in _ (by omega)
  have hw3 : IntKind.i64.wrap ((s.log.length : Int) + 1) = (s.log.length : Int) + 1 := IntWalk.i64_in _ (by omega)
  generalize s.term = tm at *
  generalize s.log.length = ll at *
  clear h hs
  have HM := Lib.hid hM
  have HBX := Lib.hid hbx
  have HRK := Lib.hid hrk
  have HW0 := Lib.hid hW0
  have HG := Lib.hid hg
  have HJ := Lib.hid hJ
  have HR := Lib.hid hR
  have HN := Lib.hid hN
  clear hM hbx hrk hW0 hg hJ hR hN
  go_enter Try.func26, Try.ntmps26
  go_wp2_with fail
  rw [← HG.out, ← HW0.out]
  go_region_held3 (fun V => (V.cell? ⟨g, 0, none⟩ = some (.int .i64 wh) ∧ V.cell? ⟨g, 1, none⟩ = some (.int .i64 a) ∧ V.cell? ⟨g, 2, none⟩ = some (.int .i64 b)) ∧ V.cell? ⟨r, 1, none⟩ = some (.int .i64 tm)) (exact ⟨HBX.out _ (Fr.mono (F := No) (by (repeat (with_reducible first | assumption | exact Fr.refl _ _ | refine Fr.alloc ?_ _ | refine Fr.drew ?_ | refine Fr.drewN ?_ _)); done) fun _ h => h.elim), (HRK.out _ (by (repeat (with_reducible first | assumption | exact Fr.refl _ _ | refine Fr.alloc ?_ _ | refine Fr.drew ?_ | refine Fr.drewN ?_ _)); done)).1⟩) (first
    | (go_at_call 19; refine (between_in _ _ _ _ (by omega) (by omega) (by omega)).mono ?_; rintro e w' ⟨x, rfl, -, -, rfl⟩))
  have F1 : Fr No W0 (W0.drew) := (Fr.refl _ _).drew
  obtain ⟨c0, c1, c2⟩ := HBX.out _ (F1.mono fun _ h => h.elim)
  obtain ⟨d1, d3⟩ := HRK.out _ F1
  generalize W0.drew = W1 at *
  have hgl1 := F1.size
  go_wp2_with fail
  refine (HM.out _).mono ?_
  rintro e w' ⟨rfl, rfl⟩
  go_wp2_with fail
  go_region_held3 (fun V => V.cell? ⟨g, 0, none⟩ = some (.int .i64 wh) ∧ V.cell? ⟨g, 1, none⟩ = some (.int .i64 a) ∧ V.cell? ⟨g, 2, none⟩ = some (.int .i64 b)) (first | exact q6 | exact q7 | exact q5 | (refine HBX.out _ (Fr.mono (F := No) ?_ fun _ h => h.elim); (repeat (with_reducible first | assumption | exact Fr.refl _ _ | refine Fr.alloc ?_ _ | refine Fr.drew ?_ | refine Fr.drewN ?_ _)); done)) (first
    | (go_at_call 22; have j5 := J5.out; refine (HN.out _).mono ?_; rintro e w7 ⟨rfl, f7⟩; have j7 := JTo.quiet j5 f7; have q7 := HBX.out _ (let ⟨_, _, _, g⟩ := j7; g.mono fun _ h => .inl h); have J7 := Lib.hid j7; clear f7 j7 j5)
    | (go_at_call 22; refine (HN.out _).mono ?_; rintro e w4 ⟨rfl, f4⟩; have F4 : Fr No W0 w4 := Fr.transNo (by (repeat (with_reducible first | assumption | exact Fr.refl _ _ | refine Fr.alloc ?_ _ | refine Fr.drew ?_ | refine Fr.drewN ?_ _)); done) f4; clear f4)
    | (go_at_call 21; refine (HJ.out _ _ (by (repeat (with_reducible first | assumption | exact Fr.refl _ _ | refine Fr.alloc ?_ _ | refine Fr.drew ?_ | refine Fr.drewN ?_ _)); done)).mono ?_; rintro e w5 ⟨rfl, j5⟩; have q5 := HBX.out _ (let ⟨_, _, _, g⟩ := j5; g.mono fun _ h => .inl h); have J5 := Lib.hid j5; clear j5)
    | (go_at_call 29; refine (HR.out _ _ _ J7.out (by (repeat (with_reducible first | assumption | exact Fr.refl _ _ | refine Fr.alloc ?_ _ | refine Fr.drew ?_ | refine Fr.drewN ?_ _)); done)).mono ?_; rintro e w6 ⟨rfl, f6, p6⟩; have q6 := HBX.out _ f6; have P6 := Lib.hid p6; clear p6 f6))
  all_goals
    go_wp2_with fail
    refine (pSame P6.out).mono ?_
    rintro e w9 ⟨rfl, p9⟩
    have P9 := Lib.hid p9
    clear p9
    go_wp2_with fail
    go_ret
    exact ⟨rfl, P9.out⟩

end Go.Proofs.Ytoiiblopnchljaa
/- The walk of the law's 'both': acts [8, 10, 11]. -/
namespace Go.Proofs.Ytoiiblopnchljaa
open Go.ChangeShapes Go.WideShapes Go.ChangeAt Go.RowKit
set_option linter.unusedVariables false

set_option maxRecDepth 100000 in
set_option maxHeartbeats 8000000 in
theorem both_8 {w0 w : World} {F G : Nat → Prop} {j r d d2 : Nat} {xs : List UInt8} {k : Nat} {s : Js} (h : PJ w0 w F G j r d d2 xs k s) (hs : JsOk s) (hn : xs.length ≤ 999999000000) (wh a b : Int) (hb : -9223372036854775808 ≤ b ∧ b ≤ 9223372036854775807) (hm : wh % 12 = 8) :
    Calls Try.prog 26 #[.pointer (some ⟨j, 0, none⟩), .pointer (some ⟨r, 0, none⟩), .agg #[.int .i64 wh, .int .i64 a, .int .i64 b]] w fun e w' => e = .returned (.bool true) ∧ PJTo w0 w' j r (xs.length + 200) := by
  have hM := fun W => mod_any wh 12 W (by decide) (by decide)
  simp only [hm] at hM
  clear hm
  have hjl := h.jn.lt
  have hrl := h.rf.lt
  have hlo := hs.lo
  have hhi := hs.hi
  have hfew := hs.few
  obtain ⟨W0, hW0⟩ : ∃ W0, W0 = w.alloc (.cells #[.int .i64 wh, .int .i64 a, .int .i64 b] 43) := ⟨_, rfl⟩
  have hbk : Blk W0 w.heap.size 43 #[.int .i64 wh, .int .i64 a, .int .i64 b] := by rw [hW0]; exact Blk.new _ _ _
  replace h := h.frNo (show Fr No w W0 by rw [hW0]; exact fr_alloc _ _)
  obtain ⟨g, hg⟩ : ∃ g, g = w.heap.size := ⟨_, rfl⟩
  rw [← hg] at hbk hjl hrl
  have hbx : ∀ V, Fr (fun i => F i ∨ G i) W0 V → V.cell? ⟨g, 0, none⟩ = some (.int .i64 wh) ∧ V.cell? ⟨g, 1, none⟩ = some (.int .i64 a) ∧ V.cell? ⟨g, 2, none⟩ = some (.int .i64 b) := fun V hV => let q := hbk.fr hV (fun hh => by
    rcases hh with hh | hh
    · have := hjl g hh; omega
    · have := hrl g hh; omega); ⟨q.cell 0, q.cell 1, q.cell 2⟩
  obtain ⟨Al, cl, Fd, r1, -, -, -, -, -, -, -, -, -, -, -, -⟩ := h.rf.open_
  have hrk : ∀ V, Fr No W0 V → V.cell? ⟨r, 1, none⟩ = some (.int .i64 s.term) ∧ V.cell? ⟨r, 3, none⟩ = some (.slice Al s.log.length cl) := fun V hV => let q := r1.fr hV (fun h => h); ⟨q.cell 1, q.cell 3⟩
  have hrr := r1.lt
  have hgl := hbk.lt
  clear r1 hjl hrl hbk
  have hJ := fun V c (hf : Fr No W0 V) => pCut_j h hs hn c hf
  have hR := fun V5 V c (h5 : JTo W0 F j d (if cutX s c = 0 then xs ++ putN 8 (recC c) else xs) k (cutS s c) V5) (hf : Fr No V5 V) => pCut_r h hs hn c h5 hf
  have hw1 : IntKind.i64.wrap (s.term - 1) = s.term - 1 := IntWalk.i64_in _ (by omega)
  have hw2 : IntKind.i64.wrap (s.term + 2) = s.term + 2 := IntWalk.i64_in _ (by omega)
  have hw3 : IntKind.i64.wrap ((s.log.length : Int) + 1) = (s.log.length : Int) + 1 := IntWalk.i64_in _ (by omega)
  generalize s.term = tm at *
  generalize s.log.length = ll at *
  clear h hs
  have HM := Lib.hid hM
  have HBX := Lib.hid hbx
  have HRK := Lib.hid hrk
  have HW0 := Lib.hid hW0
  have HG := Lib.hid hg
  have HJ := Lib.hid hJ
  have HR := Lib.hid hR
  clear hM hbx hrk hW0 hg hJ hR
  go_enter Try.func26, Try.ntmps26
  go_wp2_with fail
  rw [← HG.out, ← HW0.out]
  go_region_held3 (fun V => (V.cell? ⟨g, 0, none⟩ = some (.int .i64 wh) ∧ V.cell? ⟨g, 1, none⟩ = some (.int .i64 a) ∧ V.cell? ⟨g, 2, none⟩ = some (.int .i64 b)) ∧ V.cell? ⟨r, 1, none⟩ = some (.int .i64 tm)) (exact ⟨HBX.out _ (Fr.mono (F := No) (by (repeat (with_reducible first | assumption | exact Fr.refl _ _ | refine Fr.alloc ?_ _ | refine Fr.drew ?_ | refine Fr.drewN ?_ _)); done) fun _ h => h.elim), (HRK.out _ (by (repeat (with_reducible first | assumption | exact Fr.refl _ _ | refine Fr.alloc ?_ _ | refine Fr.drew ?_ | refine Fr.drewN ?_ _)); done)).1⟩) (first
    | (go_at_call 19; refine (between_in _ _ _ _ (by omega) (by omega) (by omega)).mono ?_; rintro e w' ⟨x, rfl, -, -, rfl⟩))
  have F1 : Fr No W0 (W0.drew) := (Fr.refl _ _).drew
  obtain ⟨c0, c1, c2⟩ := HBX.out _ (F1.mono fun _ h => h.elim)
  obtain ⟨d1, d3⟩ := HRK.out _ F1
  generalize W0.drew = W1 at *
  have hgl1 := F1.size
  go_wp2_with fail
  refine (HM.out _).mono ?_
  rintro e w' ⟨rfl, rfl⟩
  go_wp2_with fail
  go_region_held3 (fun V => (V.cell? ⟨g, 0, none⟩ = some (.int .i64 wh) ∧ V.cell? ⟨g, 1, none⟩ = some (.int .i64 a) ∧ V.cell? ⟨g, 2, none⟩ = some (.int .i64 b)) ∧ V.cell? ⟨r, 3, none⟩ = some (.slice Al ll cl)) (exact ⟨HBX.out _ (Fr.mono (F := No) (by (repeat (with_reducible first | assumption | exact Fr.refl _ _ | refine Fr.alloc ?_ _ | refine Fr.drew ?_ | refine Fr.drewN ?_ _)); done) fun _ h => h.elim), (HRK.out _ (by (repeat (with_reducible first | assumption | exact Fr.refl _ _ | refine Fr.alloc ?_ _ | refine Fr.drew ?_ | refine Fr.drewN ?_ _)); done)).2⟩) (first
    | (go_at_call 19; refine (between_in _ _ _ _ (by omega) (by omega) (by omega)).mono ?_; rintro e w' ⟨y, rfl, -, -, rfl⟩))
  go_wp2_with fail
  refine (HJ.out _ y F1.drew).mono ?_
  rintro e w5 ⟨rfl, j5⟩
  have J5 := Lib.hid j5
  clear j5
  go_wp2_with fail
  refine (HR.out _ _ y J5.out (Fr.refl _ _)).mono ?_
  rintro e w6 ⟨rfl, -, p6⟩
  have P6 := Lib.hid p6
  clear p6
  all_goals
    go_wp2_with fail
    refine (pSame P6.out).mono ?_
    rintro e w9 ⟨rfl, p9⟩
    have P9 := Lib.hid p9
    clear p9
    go_wp2_with fail
    go_ret
    exact ⟨rfl, P9.out⟩

set_option maxRecDepth 100000 in
set_option maxHeartbeats 8000000 in
theorem both_10 {w0 w : World} {F G : Nat → Prop} {j r d d2 : Nat} {xs : List UInt8} {k : Nat} {s : Js} (h : PJ w0 w F G j r d d2 xs k s) (hs : JsOk s) (hn : xs.length ≤ 999999000000) (wh a b : Int) (hb : -9223372036854775808 ≤ b ∧ b ≤ 9223372036854775807) (hm : wh % 12 = 10) :
    Calls Try.prog 26 #[.pointer (some ⟨j, 0, none⟩), .pointer (some ⟨r, 0, none⟩), .agg #[.int .i64 wh, .int .i64 a, .int .i64 b]] w fun e w' => e = .returned (.bool true) ∧ PJTo w0 w' j r (xs.length + 200) := by
  have hM := fun W => mod_any wh 12 W (by decide) (by decide)
  simp only [hm] at hM
  clear hm
  have hjl := h.jn.lt
  have hrl := h.rf.lt
  have hlo := hs.lo
  have hhi := hs.hi
  have hfew := hs.few
  obtain ⟨W0, hW0⟩ : ∃ W0, W0 = w.alloc (.cells #[.int .i64 wh, .int .i64 a, .int .i64 b] 43) := ⟨_, rfl⟩
  have hbk : Blk W0 w.heap.size 43 #[.int .i64 wh, .int .i64 a, .int .i64 b] := by rw [hW0]; exact Blk.new _ _ _
  replace h := h.frNo (show Fr No w W0 by rw [hW0]; exact fr_alloc _ _)
  obtain ⟨g, hg⟩ : ∃ g, g = w.heap.size := ⟨_, rfl⟩
  rw [← hg] at hbk hjl hrl
  have hbx : ∀ V, Fr (fun i => F i ∨ G i) W0 V → V.cell? ⟨g, 0, none⟩ = some (.int .i64 wh) ∧ V.cell? ⟨g, 1, none⟩ = some (.int .i64 a) ∧ V.cell? ⟨g, 2, none⟩ = some (.int .i64 b) := fun V hV => let q := hbk.fr hV (fun hh => by
    rcases hh with hh | hh
    · have := hjl g hh; omega
    · have := hrl g hh; omega); ⟨q.cell 0, q.cell 1, q.cell 2⟩
  obtain ⟨Al, cl, Fd, r1, -, -, -, -, -, -, -, -, -, -, -, -⟩ := h.rf.open_
  have hrk : ∀ V, Fr No W0 V → V.cell? ⟨r, 1, none⟩ = some (.int .i64 s.term) ∧ V.cell? ⟨r, 3, none⟩ = some (.slice Al s.log.length cl) := fun V hV => let q := r1.fr hV (fun h => h); ⟨q.cell 1, q.cell 3⟩
  have hrr := r1.lt
  have hgl := hbk.lt
  clear r1 hjl hrl hbk
  have hJ := fun V (hf : Fr No W0 V) => pSync_j h hf
  have hR := fun V5 V (h5 : JTo W0 F j d xs xs.length s V5) (hf : Fr No V5 V) => pSync_r h hs h5 hf
  have hw1 : IntKind.i64.wrap (s.term - 1) = s.term - 1 := IntWalk.i64_in _ (by omega)
  have hw2 : IntKind.i64.wrap (s.term + 2) = s.term + 2 := IntWalk.i64_in _ (by omega)
  have hw3 : IntKind.i64.wrap ((s.log.length : Int) + 1) = (s.log.length : Int) + 1 := IntWalk.i64_in _ (by omega)
  generalize s.term = tm at *
  generalize s.log.length = ll at *
  clear h hs
  have HM := Lib.hid hM
  have HBX := Lib.hid hbx
  have HRK := Lib.hid hrk
  have HW0 := Lib.hid hW0
  have HG := Lib.hid hg
  have HJ := Lib.hid hJ
  have HR := Lib.hid hR
  clear hM hbx hrk hW0 hg hJ hR
  go_enter Try.func26, Try.ntmps26
  go_wp2_with fail
  rw [← HG.out, ← HW0.out]
  go_region_held3 (fun V => (V.cell? ⟨g, 0, none⟩ = some (.int .i64 wh) ∧ V.cell? ⟨g, 1, none⟩ = some (.int .i64 a) ∧ V.cell? ⟨g, 2, none⟩ = some (.int .i64 b)) ∧ V.cell? ⟨r, 1, none⟩ = some (.int .i64 tm)) (exact ⟨HBX.out _ (Fr.mono (F := No) (by (repeat (with_reducible first | assumption | exact Fr.refl _ _ | refine Fr.alloc ?_ _ | refine Fr.drew ?_ | refine Fr.drewN ?_ _)); done) fun _ h => h.elim), (HRK.out _ (by (repeat (with_reducible first | assumption | exact Fr.refl _ _ | refine Fr.alloc ?_ _ | refine Fr.drew ?_ | refine Fr.drewN ?_ _)); done)).1⟩) (first
    | (go_at_call 19; refine (between_in _ _ _ _ (by omega) (by omega) (by omega)).mono ?_; rintro e w' ⟨x, rfl, -, -, rfl⟩))
  have F1 : Fr No W0 (W0.drew) := (Fr.refl _ _).drew
  obtain ⟨c0, c1, c2⟩ := HBX.out _ (F1.mono fun _ h => h.elim)
  obtain ⟨d1, d3⟩ := HRK.out _ F1
  generalize W0.drew = W1 at *
  have hgl1 := F1.size
  go_wp2_with fail
  refine (HM.out _).mono ?_
  rintro e w' ⟨rfl, rfl⟩
  go_wp2_with fail
  refine (HJ.out _ F1).mono ?_
  rintro e w5 ⟨rfl, j5⟩
  have J5 := Lib.hid j5
  clear j5
  go_wp2_with fail
  refine (HR.out _ _ J5.out (Fr.refl _ _)).mono ?_
  rintro e w6 ⟨rfl, -, p6⟩
  have P6 := Lib.hid p6
  clear p6
  all_goals
    go_wp2_with fail
    refine (pSame P6.out).mono ?_
    rintro e w9 ⟨rfl, p9⟩
    have P9 := Lib.hid p9
    clear p9
    go_wp2_with fail
    go_ret
    exact ⟨rfl, P9.out⟩

set_option maxRecDepth 100000 in
set_option maxHeartbeats 8000000 in
theorem both_11 {w0 w : World} {F G : Nat → Prop} {j r d d2 : Nat} {xs : List UInt8} {k : Nat} {s : Js} (h : PJ w0 w F G j r d d2 xs k s) (hs : JsOk s) (hn : xs.length ≤ 999999000000) (wh a b : Int) (hb : -9223372036854775808 ≤ b ∧ b ≤ 9223372036854775807) (hm : wh % 12 = 11) :
    Calls Try.prog 26 #[.pointer (some ⟨j, 0, none⟩), .pointer (some ⟨r, 0, none⟩), .agg #[.int .i64 wh, .int .i64 a, .int .i64 b]] w fun e w' => e = .returned (.bool true) ∧ PJTo w0 w' j r (xs.length + 200) := by
  have hM := fun W => mod_any wh 12 W (by decide) (by decide)
  simp only [hm] at hM
  clear hm
  have hjl := h.jn.lt
  have hrl := h.rf.lt
  have hlo := hs.lo
  have hhi := hs.hi
  have hfew := hs.few
  obtain ⟨W0, hW0⟩ : ∃ W0, W0 = w.alloc (.cells #[.int .i64 wh, .int .i64 a, .int .i64 b] 43) := ⟨_, rfl⟩
  have hbk : Blk W0 w.heap.size 43 #[.int .i64 wh, .int .i64 a, .int .i64 b] := by rw [hW0]; exact Blk.new _ _ _
  replace h := h.frNo (show Fr No w W0 by rw [hW0]; exact fr_alloc _ _)
  obtain ⟨g, hg⟩ : ∃ g, g = w.heap.size := ⟨_, rfl⟩
  rw [← hg] at hbk hjl hrl
  have hbx : ∀ V, Fr (fun i => F i ∨ G i) W0 V → V.cell? ⟨g, 0, none⟩ = some (.int .i64 wh) ∧ V.cell? ⟨g, 1, none⟩ = some (.int .i64 a) ∧ V.cell? ⟨g, 2, none⟩ = some (.int .i64 b) := fun V hV => let q := hbk.fr hV (fun hh => by
    rcases hh with hh | hh
    · have := hjl g hh; omega
    · have := hrl g hh; omega); ⟨q.cell 0, q.cell 1, q.cell 2⟩
  obtain ⟨Al, cl, Fd, r1, -, -, -, -, -, -, -, -, -, -, -, -⟩ := h.rf.open_
  have hrk : ∀ V, Fr No W0 V → V.cell? ⟨r, 1, none⟩ = some (.int .i64 s.term) ∧ V.cell? ⟨r, 3, none⟩ = some (.slice Al s.log.length cl) := fun V hV => let q := r1.fr hV (fun h => h); ⟨q.cell 1, q.cell 3⟩
  have hrr := r1.lt
  have hgl := hbk.lt
  clear r1 hjl hrl hbk
  have hB := fun V => between_any a (-1) 80 V (by decide) (by decide) (by decide)
  generalize (-1 + a % (80 - -1 + 1)) = y at *
  have hJ := fun V (hf : Fr No W0 V) => pCrash_j h y hf
  have hR := fun V5 V (h5 : JTo W0 F j d ((xs.take (crashN xs.length k y)).take (playJ (xs.take (crashN xs.length k y))).1) (min (crashN xs.length k y) (playJ (xs.take (crashN xs.length k y))).1) (playJ (xs.take (crashN xs.length k y))).2 V5) (hf : Fr No V5 V) => pCrash_r h hn y h5 hf
  have hw1 : IntKind.i64.wrap (s.term - 1) = s.term - 1 := IntWalk.i64_in _ (by omega)
  have hw2 : IntKind.i64.wrap (s.term + 2) = s.term + 2 := IntWalk.i64_in _ (by omega)
  have hw3 : IntKind.i64.wrap ((s.log.length : Int) + 1) = (s.log.length : Int) + 1 := IntWalk.i64_in _ (by omega)
  generalize s.term = tm at *
  generalize s.log.length = ll at *
  clear h hs
  have HM := Lib.hid hM
  have HBX := Lib.hid hbx
  have HRK := Lib.hid hrk
  have HW0 := Lib.hid hW0
  have HG := Lib.hid hg
  have HJ := Lib.hid hJ
  have HR := Lib.hid hR
  have HB := Lib.hid hB
  clear hM hbx hrk hW0 hg hJ hR hB
  go_enter Try.func26, Try.ntmps26
  go_wp2_with fail
  rw [← HG.out, ← HW0.out]
  go_region_held3 (fun V => (V.cell? ⟨g, 0, none⟩ = some (.int .i64 wh) ∧ V.cell? ⟨g, 1, none⟩ = some (.int .i64 a) ∧ V.cell? ⟨g, 2, none⟩ = some (.int .i64 b)) ∧ V.cell? ⟨r, 1, none⟩ = some (.int .i64 tm)) (exact ⟨HBX.out _ (Fr.mono (F := No) (by (repeat (with_reducible first | assumption | exact Fr.refl _ _ | refine Fr.alloc ?_ _ | refine Fr.drew ?_ | refine Fr.drewN ?_ _)); done) fun _ h => h.elim), (HRK.out _ (by (repeat (with_reducible first | assumption | exact Fr.refl _ _ | refine Fr.alloc ?_ _ | refine Fr.drew ?_ | refine Fr.drewN ?_ _)); done)).1⟩) (first
    | (go_at_call 19; refine (between_in _ _ _ _ (by omega) (by omega) (by omega)).mono ?_; rintro e w' ⟨x, rfl, -, -, rfl⟩))
  have F1 : Fr No W0 (W0.drew) := (Fr.refl _ _).drew
  obtain ⟨c0, c1, c2⟩ := HBX.out _ (F1.mono fun _ h => h.elim)
  obtain ⟨d1, d3⟩ := HRK.out _ F1
  generalize W0.drew = W1 at *
  have hgl1 := F1.size
  go_wp2_with fail
  refine (HM.out _).mono ?_
  rintro e w' ⟨rfl, rfl⟩
  go_wp2_with fail
  refine (HB.out _).mono ?_
  rintro e w' ⟨rfl, rfl⟩
  go_wp2_with fail
  refine (HJ.out _ F1).mono ?_
  rintro e w5 ⟨rfl, j5⟩
  obtain ⟨e0, e1, e2⟩ := HBX.out _ (let ⟨_, _, _, g⟩ := j5; g.mono fun _ h => .inl h : Fr (fun i => F i ∨ G i) W0 w5)
  have J5 := Lib.hid j5
  clear j5
  go_wp2_with fail
  refine (HB.out _).mono ?_
  rintro e w' ⟨rfl, rfl⟩
  go_wp2_with fail
  refine (HR.out _ _ J5.out (Fr.refl _ _)).mono ?_
  rintro e w6 ⟨rfl, -, p6⟩
  have P6 := Lib.hid p6
  clear p6
  all_goals
    go_wp2_with fail
    refine (pSame P6.out).mono ?_
    rintro e w9 ⟨rfl, p9⟩
    have P9 := Lib.hid p9
    clear p9
    go_wp2_with fail
    go_ret
    exact ⟨rfl, P9.out⟩

end Go.Proofs.Ytoiiblopnchljaa
/- The walk of the law's 'both': acts [7]. -/
namespace Go.Proofs.Ytoiiblopnchljaa
open Go.ChangeShapes Go.WideShapes Go.ChangeAt Go.RowKit
set_option linter.unusedVariables false

set_option maxRecDepth 100000 in
set_option maxHeartbeats 8000000 in
theorem both_7 {w0 w : World} {F G : Nat → Prop} {j r d d2 : Nat} {xs : List UInt8} {k : Nat} {s : Js} (h : PJ w0 w F G j r d d2 xs k s) (hs : JsOk s) (hn : xs.length ≤ 999999000000) (wh a b : Int) (hb : -9223372036854775808 ≤ b ∧ b ≤ 9223372036854775807) (hm : wh % 12 = 7) :
    Calls Try.prog 26 #[.pointer (some ⟨j, 0, none⟩), .pointer (some ⟨r, 0, none⟩), .agg #[.int .i64 wh, .int .i64 a, .int .i64 b]] w fun e w' => e = .returned (.bool true) ∧ PJTo w0 w' j r (xs.length + 200) := by
  have hM := fun W => mod_any wh 12 W (by decide) (by decide)
  simp only [hm] at hM
  clear hm
  have hjl := h.jn.lt
  have hrl := h.rf.lt
  have hlo := hs.lo
  have hhi := hs.hi
  have hfew := hs.few
  obtain ⟨W0, hW0⟩ : ∃ W0, W0 = w.alloc (.cells #[.int .i64 wh, .int .i64 a, .int .i64 b] 43) := ⟨_, rfl⟩
  have hbk : Blk W0 w.heap.size 43 #[.int .i64 wh, .int .i64 a, .int .i64 b] := by rw [hW0]; exact Blk.new _ _ _
  replace h := h.frNo (show Fr No w W0 by rw [hW0]; exact fr_alloc _ _)
  obtain ⟨g, hg⟩ : ∃ g, g = w.heap.size := ⟨_, rfl⟩
  rw [← hg] at hbk hjl hrl
  have hbx : ∀ V, Fr (fun i => F i ∨ G i) W0 V → V.cell? ⟨g, 0, none⟩ = some (.int .i64 wh) ∧ V.cell? ⟨g, 1, none⟩ = some (.int .i64 a) ∧ V.cell? ⟨g, 2, none⟩ = some (.int .i64 b) := fun V hV => let q := hbk.fr hV (fun hh => by
    rcases hh with hh | hh
    · have := hjl g hh; omega
    · have := hrl g hh; omega); ⟨q.cell 0, q.cell 1, q.cell 2⟩
  obtain ⟨Al, cl, Fd, r1, -, -, -, -, -, -, -, -, -, -, -, -⟩ := h.rf.open_
  have hrk : ∀ V, Fr No W0 V → V.cell? ⟨r, 1, none⟩ = some (.int .i64 s.term) ∧ V.cell? ⟨r, 3, none⟩ = some (.slice Al s.log.length cl) := fun V hV => let q := r1.fr hV (fun h => h); ⟨q.cell 1, q.cell 3⟩
  have hrr := r1.lt
  have hgl := hbk.lt
  clear r1 hjl hrl hbk
  have hN := fun V => note_any 3 V
  have hE0 : (noteE (3 % 1000)).v = .agg #[.int .i64 16, .int .i64 0, .int .i64 (-1), .int .i64 (-1), .int .i64 (-1), .int .i64 0, .int .i64 0, .int .i64 0, .int .i64 3] := rfl
  have hP := fun V => spoilt_any (noteE (3 % 1000)) a b V
  simp only [hE0] at hN hP
  have hok := spoilN_ok (noteE (3 % 1000)) (a % 9) b (noteE_ok 3 (by decide) (by decide)) hb
  generalize spoilN (noteE (3 % 1000)) (a % 9) b = E at *
  have hEV : E.v = .agg #[.int .i64 E.kind, .int .i64 E.tick, .int .i64 E.tenant, .int .i64 E.cell, .int .i64 E.other, .int .i64 E.epoch, .int .i64 E.from_, .int .i64 E.until_, .int .i64 E.n] := rfl
  have hJ := fun W9 V (h9 : Fr No W0 W9) (hf : Fr No W9 V) => pAdd_j (h.frNo h9) hs hn s.term E hok hf
  have hR := fun W9 V5 V (h9 : Fr No W0 W9) (h5 : JTo W9 F j d (if addX s s.term E = 0 then xs ++ putN 8 (recE s.term E) else xs) k (addS s s.term E) V5) (hf : Fr No V5 V) => pAdd_r2 (h.frNo h9) hs hn s.term E hok h5 hf
  have hmid := fun W9 V5 ys m s' (h9 : Fr No W0 W9) (h5 : JTo W9 F j d ys m s' V5) => ((h.frNo h9).mid h5)
  have hlt1 := h.jn.lt
  have hlt2 := h.rf.lt
  have hkk : ∀ W9 q, Fr No W0 W9 → Blk W9 q TEnt #[.int .i64 E.kind, .int .i64 E.tick, .int .i64 E.tenant, .int .i64 E.cell, .int .i64 E.other, .int .i64 E.epoch, .int .i64 E.from_, .int .i64 E.until_, .int .i64 E.n] → W0.heap.size ≤ q → ∀ V, Fr (fun i => F i ∨ G i) W9 V → V.cell? ⟨r, 1, none⟩ = some (.int .i64 s.term) → V.cell? ⟨q, 0, none⟩ = some (.int .i64 E.kind) ∧ V.cell? ⟨q, 1, none⟩ = some (.int .i64 E.tick) ∧ V.cell? ⟨q, 2, none⟩ = some (.int .i64 E.tenant) ∧ V.cell? ⟨q, 3, none⟩ = some (.int .i64 E.cell) ∧ V.cell? ⟨q, 4, none⟩ = some (.int .i64 E.other) ∧ V.cell? ⟨q, 5, none⟩ = some (.int .i64 E.epoch) ∧ V.cell? ⟨q, 6, none⟩ = some (.int .i64 E.from_) ∧ V.cell? ⟨q, 7, none⟩ = some (.int .i64 E.until_) ∧ V.cell? ⟨q, 8, none⟩ = some (.int .i64 E.n) ∧ V.cell? ⟨r, 1, none⟩ = some (.int .i64 s.term) := fun W9 q h9 hb9 hq V hV hr1 => let z := hb9.fr hV (fun hh => by
    rcases hh with hh | hh
    · have := hlt1 q hh; omega
    · have := hlt2 q hh; omega); ⟨z.cell 0, z.cell 1, z.cell 2, z.cell 3, z.cell 4, z.cell 5, z.cell 6, z.cell 7, z.cell 8, hr1⟩
  have hr5 := fun W9 V5 ys m s' (h9 : Fr No W0 W9) (h5 : JTo W9 F j d ys m s' V5) => rterm (hmid W9 V5 ys m s' h9 h5).1
  have hfill := fun Z q (hf : Fr No W0 Z) (hq : W0.heap.size ≤ q) => hbx _ ((ent_fill_fr E hf hq).mono fun _ h => h.elim)
  simp only [hEV] at hP hJ hR
  clear hEV hE0 hok hmid hlt1 hlt2
  have hw1 : IntKind.i64.wrap (s.term - 1) = s.term - 1 := IntWalk.i64_in _ (by omega)
  have hw2 : IntKind.i64.wrap (s.term + 2) = s.term + 2 := IntWalk.i64_in _ (by omega)
  have hw3 : IntKind.i64.wrap ((s.log.length : Int) + 1) = (s.log.length : Int) + 1 := IntWalk.i64_in _ (by omega)
  generalize s.term = tm at *
  generalize s.log.length = ll at *
  clear h hs
  have HM := Lib.hid hM
  have HBX := Lib.hid hbx
  have HRK := Lib.hid hrk
  have HW0 := Lib.hid hW0
  have HG := Lib.hid hg
  have HJ := Lib.hid hJ
  have HR := Lib.hid hR
  have HN := Lib.hid hN
  have HP := Lib.hid hP
  have HKK := Lib.hid hkk
  have HR5 := Lib.hid hr5
  have HFILL := Lib.hid hfill
  clear hM hbx hrk hW0 hg hJ hR hN hP hkk hr5 hfill
  go_enter Try.func26, Try.ntmps26
  go_wp2_with fail
  rw [← HG.out, ← HW0.out]
  go_region_held3 (fun V => (V.cell? ⟨g, 0, none⟩ = some (.int .i64 wh) ∧ V.cell? ⟨g, 1, none⟩ = some (.int .i64 a) ∧ V.cell? ⟨g, 2, none⟩ = some (.int .i64 b)) ∧ V.cell? ⟨r, 1, none⟩ = some (.int .i64 tm)) (exact ⟨HBX.out _ (Fr.mono (F := No) (by (repeat (with_reducible first | assumption | exact Fr.refl _ _ | refine Fr.alloc ?_ _ | refine Fr.drew ?_ | refine Fr.drewN ?_ _)); done) fun _ h => h.elim), (HRK.out _ (by (repeat (with_reducible first | assumption | exact Fr.refl _ _ | refine Fr.alloc ?_ _ | refine Fr.drew ?_ | refine Fr.drewN ?_ _)); done)).1⟩) (first
    | (go_at_call 19; refine (between_in _ _ _ _ (by omega) (by omega) (by omega)).mono ?_; rintro e w' ⟨x, rfl, -, -, rfl⟩))
  have F1 : Fr No W0 (W0.drew) := (Fr.refl _ _).drew
  obtain ⟨c0, c1, c2⟩ := HBX.out _ (F1.mono fun _ h => h.elim)
  obtain ⟨d1, d3⟩ := HRK.out _ F1
  generalize W0.drew = W1 at *
  have hgl1 := F1.size
  go_wp2_with fail
  refine (HM.out _).mono ?_
  rintro e w' ⟨rfl, rfl⟩
  go_wp2_with fail
  go_region_held3 (fun V => V.cell? ⟨g, 0, none⟩ = some (.int .i64 wh) ∧ V.cell? ⟨g, 1, none⟩ = some (.int .i64 a) ∧ V.cell? ⟨g, 2, none⟩ = some (.int .i64 b)) (first | (with_reducible exact HFILL.out _ _ F5 F4.size) | (with_reducible exact HFILL.out _ _ F5 hgl1) | (with_reducible exact HFILL.out _ _ (F5.alloc _) F5.size) | (refine HBX.out _ (Fr.mono (F := No) ?_ fun _ h => h.elim); (repeat (with_reducible first | assumption | exact Fr.refl _ _ | refine Fr.alloc ?_ _ | refine Fr.drew ?_ | refine Fr.drewN ?_ _)); done)) (first
    | (go_at_call 22; refine (HN.out _).mono ?_; rintro e w4 ⟨rfl, f4⟩; have F4 : Fr No W0 w4 := Fr.transNo (by (repeat (with_reducible first | assumption | exact Fr.refl _ _ | refine Fr.alloc ?_ _ | refine Fr.drew ?_ | refine Fr.drewN ?_ _)); done) f4; (try (have B4 : Blk w4 W1.heap.size TEnt #[.int .i64 0, .int .i64 0, .int .i64 0, .int .i64 0, .int .i64 0, .int .i64 0, .int .i64 0, .int .i64 0, .int .i64 0] := by with_reducible exact Blk.fr (Blk.fr (F := No) (Blk.new W1 TEnt #[.int .i64 0, .int .i64 0, .int .i64 0, .int .i64 0, .int .i64 0, .int .i64 0, .int .i64 0, .int .i64 0, .int .i64 0]) (Fr.drew (Fr.refl _ _)) (fun h => h)) f4 (fun h => h))))
    | (go_at_call 52; refine (HP.out _).mono ?_; rintro e w5 ⟨rfl, f5⟩; have F5 : Fr No W0 w5 := Fr.transNo (by (repeat (with_reducible first | assumption | exact Fr.refl _ _ | refine Fr.alloc ?_ _ | refine Fr.drew ?_ | refine Fr.drewN ?_ _)); done) f5; (try ((have B5 : Blk w5 W1.heap.size TEnt #[.int .i64 0, .int .i64 0, .int .i64 0, .int .i64 0, .int .i64 0, .int .i64 0, .int .i64 0, .int .i64 0, .int .i64 0] := by with_reducible exact Blk.fr B4 f5 (fun h => h)); obtain ⟨y0, y1, y2, y3, y4, y5, y6, y7, y8⟩ := ent_cells B5; have z0 := B5.frozen 0; have z1 := B5.frozen 1; have z2 := B5.frozen 2; have z3 := B5.frozen 3; have z4 := B5.frozen 4; have z5 := B5.frozen 5; have z6 := B5.frozen 6; have z7 := B5.frozen 7; have z8 := B5.frozen 8)); (try ((have B5 : Blk w5 w4.heap.size TEnt #[.int .i64 0, .int .i64 0, .int .i64 0, .int .i64 0, .int .i64 0, .int .i64 0, .int .i64 0, .int .i64 0, .int .i64 0] := by with_reducible exact Blk.fr (Blk.new w4 TEnt #[.int .i64 0, .int .i64 0, .int .i64 0, .int .i64 0, .int .i64 0, .int .i64 0, .int .i64 0, .int .i64 0, .int .i64 0]) f5 (fun h => h)); obtain ⟨y0, y1, y2, y3, y4, y5, y6, y7, y8⟩ := ent_cells B5; have z0 := B5.frozen 0; have z1 := B5.frozen 1; have z2 := B5.frozen 2; have z3 := B5.frozen 3; have z4 := B5.frozen 4; have z5 := B5.frozen 5; have z6 := B5.frozen 6; have z7 := B5.frozen 7; have z8 := B5.frozen 8))))
  all_goals go_wp2_with fail
  · have F9 := F5.alloc (.cells #[.int .i64 E.kind, .int .i64 E.tick, .int .i64 E.tenant, .int .i64 E.cell, .int .i64 E.other, .int .i64 E.epoch, .int .i64 E.from_, .int .i64 E.until_, .int .i64 E.n] TEnt)
    have hb9 := Blk.new w5 TEnt #[.int .i64 E.kind, .int .i64 E.tick, .int .i64 E.tenant, .int .i64 E.cell, .int .i64 E.other, .int .i64 E.epoch, .int .i64 E.from_, .int .i64 E.until_, .int .i64 E.n]
    have hq : W0.heap.size ≤ w5.heap.size := F5.size
    obtain ⟨W9, hW9⟩ : ∃ W9, W9 = w5.alloc (.cells #[.int .i64 E.kind, .int .i64 E.tick, .int .i64 E.tenant, .int .i64 E.cell, .int .i64 E.other, .int .i64 E.epoch, .int .i64 E.from_, .int .i64 E.until_, .int .i64 E.n] TEnt) := ⟨_, rfl⟩
    rw [← hW9] at F9 hb9 ⊢
    obtain ⟨q, hqq⟩ : ∃ q, q = w5.heap.size := ⟨_, rfl⟩
    rw [← hqq] at hb9 hq ⊢
    clear hW9 hqq
    have hk9 := HKK.out W9 q F9 hb9 hq
    have HK9 := Lib.hid hk9
    have F8 := F9
    clear hk9 hb9 F4 F5 f4 f5 HKK
    try clear y0 y1 y2 y3 y4 y5 y6 y7 y8 z0 z1 z2 z3 z4 z5 z6 z7 z8
    try clear hHeld
    clear c0 c1 c2 d1 d3 F1
    go_region_held3 (fun V => V.cell? ⟨q, 0, none⟩ = some (.int .i64 E.kind) ∧ V.cell? ⟨q, 1, none⟩ = some (.int .i64 E.tick) ∧ V.cell? ⟨q, 2, none⟩ = some (.int .i64 E.tenant) ∧ V.cell? ⟨q, 3, none⟩ = some (.int .i64 E.cell) ∧ V.cell? ⟨q, 4, none⟩ = some (.int .i64 E.other) ∧ V.cell? ⟨q, 5, none⟩ = some (.int .i64 E.epoch) ∧ V.cell? ⟨q, 6, none⟩ = some (.int .i64 E.from_) ∧ V.cell? ⟨q, 7, none⟩ = some (.int .i64 E.until_) ∧ V.cell? ⟨q, 8, none⟩ = some (.int .i64 E.n) ∧ V.cell? ⟨r, 1, none⟩ = some (.int .i64 tm)) (first | exact q6 | exact q5 | (refine HK9.out _ (Fr.mono (F := No) ?_ fun _ h => h.elim) (HRK.out _ ?_).1 <;> ((repeat (with_reducible first | assumption | exact Fr.refl _ _ | refine Fr.alloc ?_ _ | refine Fr.drew ?_ | refine Fr.drewN ?_ _)); done))) (first
      | (go_at_call 21; refine (HJ.out W9 _ F9 (by (repeat (with_reducible first | assumption | exact Fr.refl _ _ | refine Fr.alloc ?_ _ | refine Fr.drew ?_ | refine Fr.drewN ?_ _)); done)).mono ?_; rintro e w6 ⟨rfl, j6⟩; have q5 := HK9.out _ (let ⟨_, _, _, g⟩ := j6; g.mono fun _ h => .inl h) (HR5.out W9 _ _ _ _ F9 j6); have J5 := Lib.hid j6; clear j6)
      | (go_at_call 29; refine (HR.out W9 _ _ F9 J5.out (by (repeat (with_reducible first | assumption | exact Fr.refl _ _ | refine Fr.alloc ?_ _ | refine Fr.drew ?_ | refine Fr.drewN ?_ _)); done)).mono ?_; rintro e w7 ⟨rfl, f7, r7, p7⟩; have q6 := HK9.out _ f7 r7; have P6 := Lib.hid p7; clear p7 f7 r7))
    go_wp2_with fail
    refine (pSame P6.out).mono ?_
    rintro e w9 ⟨rfl, p9⟩
    have P9 := Lib.hid p9
    clear p9
    go_wp2_with fail
    go_ret
    exact ⟨rfl, P9.out⟩
  · have F9 := ent_fill_fr E F5 F4.size
    have hb9 := ent_fill E B5
    have hq : W0.heap.size ≤ w4.heap.size := F4.size
    obtain ⟨W9, hW9⟩ : ∃ W9, W9 = World.setCell (World.setCell (World.setCell (World.setCell (World.setCell (World.setCell (World.setCell (World.setCell (World.setCell w5 ⟨w4.heap.size, 0, none⟩ (.int .i64 E.kind)) ⟨w4.heap.size, 1, none⟩ (.int .i64 E.tick)) ⟨w4.heap.size, 2, none⟩ (.int .i64 E.tenant)) ⟨w4.heap.size, 3, none⟩ (.int .i64 E.cell)) ⟨w4.heap.size, 4, none⟩ (.int .i64 E.other)) ⟨w4.heap.size, 5, none⟩ (.int .i64 E.epoch)) ⟨w4.heap.size, 6, none⟩ (.int .i64 E.from_)) ⟨w4.heap.size, 7, none⟩ (.int .i64 E.until_)) ⟨w4.heap.size, 8, none⟩ (.int .i64 E.n) := ⟨_, rfl⟩
    rw [← hW9] at F9 hb9 ⊢
    obtain ⟨q, hqq⟩ : ∃ q, q = w4.heap.size := ⟨_, rfl⟩
    rw [← hqq] at hb9 hq ⊢
    clear hW9 hqq
    have hk9 := HKK.out W9 q F9 hb9 hq
    have HK9 := Lib.hid hk9
    have F8 := F9
    clear B5
    clear hk9 hb9 F4 F5 f4 f5 HKK
    try clear y0 y1 y2 y3 y4 y5 y6 y7 y8 z0 z1 z2 z3 z4 z5 z6 z7 z8
    try clear hHeld
    clear c0 c1 c2 d1 d3 F1
    go_region_held3 (fun V => V.cell? ⟨q, 0, none⟩ = some (.int .i64 E.kind) ∧ V.cell? ⟨q, 1, none⟩ = some (.int .i64 E.tick) ∧ V.cell? ⟨q, 2, none⟩ = some (.int .i64 E.tenant) ∧ V.cell? ⟨q, 3, none⟩ = some (.int .i64 E.cell) ∧ V.cell? ⟨q, 4, none⟩ = some (.int .i64 E.other) ∧ V.cell? ⟨q, 5, none⟩ = some (.int .i64 E.epoch) ∧ V.cell? ⟨q, 6, none⟩ = some (.int .i64 E.from_) ∧ V.cell? ⟨q, 7, none⟩ = some (.int .i64 E.until_) ∧ V.cell? ⟨q, 8, none⟩ = some (.int .i64 E.n) ∧ V.cell? ⟨r, 1, none⟩ = some (.int .i64 tm)) (first | exact q6 | exact q5 | (refine HK9.out _ (Fr.mono (F := No) ?_ fun _ h => h.elim) (HRK.out _ ?_).1 <;> ((repeat (with_reducible first | assumption | exact Fr.refl _ _ | refine Fr.alloc ?_ _ | refine Fr.drew ?_ | refine Fr.drewN ?_ _)); done))) (first
      | (go_at_call 21; refine (HJ.out W9 _ F9 (by (repeat (with_reducible first | assumption | exact Fr.refl _ _ | refine Fr.alloc ?_ _ | refine Fr.drew ?_ | refine Fr.drewN ?_ _)); done)).mono ?_; rintro e w6 ⟨rfl, j6⟩; have q5 := HK9.out _ (let ⟨_, _, _, g⟩ := j6; g.mono fun _ h => .inl h) (HR5.out W9 _ _ _ _ F9 j6); have J5 := Lib.hid j6; clear j6)
      | (go_at_call 29; refine (HR.out W9 _ _ F9 J5.out (by (repeat (with_reducible first | assumption | exact Fr.refl _ _ | refine Fr.alloc ?_ _ | refine Fr.drew ?_ | refine Fr.drewN ?_ _)); done)).mono ?_; rintro e w7 ⟨rfl, f7, r7, p7⟩; have q6 := HK9.out _ f7 r7; have P6 := Lib.hid p7; clear p7 f7 r7))
    go_wp2_with fail
    refine (pSame P6.out).mono ?_
    rintro e w9 ⟨rfl, p9⟩
    have P9 := Lib.hid p9
    clear p9
    go_wp2_with fail
    go_ret
    exact ⟨rfl, P9.out⟩
  · have F9 := ent_fill_fr E F5 hgl1
    have hb9 := ent_fill E B5
    have hq : W0.heap.size ≤ W1.heap.size := hgl1
    obtain ⟨W9, hW9⟩ : ∃ W9, W9 = World.setCell (World.setCell (World.setCell (World.setCell (World.setCell (World.setCell (World.setCell (World.setCell (World.setCell w5 ⟨W1.heap.size, 0, none⟩ (.int .i64 E.kind)) ⟨W1.heap.size, 1, none⟩ (.int .i64 E.tick)) ⟨W1.heap.size, 2, none⟩ (.int .i64 E.tenant)) ⟨W1.heap.size, 3, none⟩ (.int .i64 E.cell)) ⟨W1.heap.size, 4, none⟩ (.int .i64 E.other)) ⟨W1.heap.size, 5, none⟩ (.int .i64 E.epoch)) ⟨W1.heap.size, 6, none⟩ (.int .i64 E.from_)) ⟨W1.heap.size, 7, none⟩ (.int .i64 E.until_)) ⟨W1.heap.size, 8, none⟩ (.int .i64 E.n) := ⟨_, rfl⟩
    rw [← hW9] at F9 hb9 ⊢
    obtain ⟨q, hqq⟩ : ∃ q, q = W1.heap.size := ⟨_, rfl⟩
    rw [← hqq] at hb9 hq ⊢
    clear hW9 hqq
    have hk9 := HKK.out W9 q F9 hb9 hq
    have HK9 := Lib.hid hk9
    have F8 := F9
    clear B5 B4
    clear hk9 hb9 F4 F5 f4 f5 HKK
    try clear y0 y1 y2 y3 y4 y5 y6 y7 y8 z0 z1 z2 z3 z4 z5 z6 z7 z8
    try clear hHeld
    clear c0 c1 c2 d1 d3 F1
    go_region_held3 (fun V => V.cell? ⟨q, 0, none⟩ = some (.int .i64 E.kind) ∧ V.cell? ⟨q, 1, none⟩ = some (.int .i64 E.tick) ∧ V.cell? ⟨q, 2, none⟩ = some (.int .i64 E.tenant) ∧ V.cell? ⟨q, 3, none⟩ = some (.int .i64 E.cell) ∧ V.cell? ⟨q, 4, none⟩ = some (.int .i64 E.other) ∧ V.cell? ⟨q, 5, none⟩ = some (.int .i64 E.epoch) ∧ V.cell? ⟨q, 6, none⟩ = some (.int .i64 E.from_) ∧ V.cell? ⟨q, 7, none⟩ = some (.int .i64 E.until_) ∧ V.cell? ⟨q, 8, none⟩ = some (.int .i64 E.n) ∧ V.cell? ⟨r, 1, none⟩ = some (.int .i64 tm)) (first | exact q6 | exact q5 | (refine HK9.out _ (Fr.mono (F := No) ?_ fun _ h => h.elim) (HRK.out _ ?_).1 <;> ((repeat (with_reducible first | assumption | exact Fr.refl _ _ | refine Fr.alloc ?_ _ | refine Fr.drew ?_ | refine Fr.drewN ?_ _)); done))) (first
      | (go_at_call 21; refine (HJ.out W9 _ F9 (by (repeat (with_reducible first | assumption | exact Fr.refl _ _ | refine Fr.alloc ?_ _ | refine Fr.drew ?_ | refine Fr.drewN ?_ _)); done)).mono ?_; rintro e w6 ⟨rfl, j6⟩; have q5 := HK9.out _ (let ⟨_, _, _, g⟩ := j6; g.mono fun _ h => .inl h) (HR5.out W9 _ _ _ _ F9 j6); have J5 := Lib.hid j6; clear j6)
      | (go_at_call 29; refine (HR.out W9 _ _ F9 J5.out (by (repeat (with_reducible first | assumption | exact Fr.refl _ _ | refine Fr.alloc ?_ _ | refine Fr.drew ?_ | refine Fr.drewN ?_ _)); done)).mono ?_; rintro e w7 ⟨rfl, f7, r7, p7⟩; have q6 := HK9.out _ f7 r7; have P6 := Lib.hid p7; clear p7 f7 r7))
    go_wp2_with fail
    refine (pSame P6.out).mono ?_
    rintro e w9 ⟨rfl, p9⟩
    have P9 := Lib.hid p9
    clear p9
    go_wp2_with fail
    go_ret
    exact ⟨rfl, P9.out⟩
end Go.Proofs.Ytoiiblopnchljaa
/- The walk of JournalPlays. -/
namespace Go.Proofs.Ytoiiblopnchljaa
open Go.ChangeShapes Go.WideShapes Go.ChangeAt Go.RowKit
set_option linter.unusedVariables false

theorem both_any {w0 w : World} {j r n : Nat} (h : PJTo w0 w j r n) (hn : n ≤ 999999000000) (a : JAct) (ha : a.ok) :
    Calls Try.prog 26 #[.pointer (some ⟨j, 0, none⟩), .pointer (some ⟨r, 0, none⟩), .agg #[.int .i64 a.which, .int .i64 a.a, .int .i64 a.b]] w fun e w' => e = .returned (.bool true) ∧ PJTo w0 w' j r (n + 200) := by
  obtain ⟨F, G, d, d2, xs, k, s, h1, h2, h3⟩ := h
  have hm0 := Int.emod_nonneg a.which (b := 12) (by decide)
  have hm1 := Int.emod_lt_of_pos a.which (b := 12) (by decide)
  have hcase : a.which % 12 = 0 ∨ a.which % 12 = 1 ∨ a.which % 12 = 2 ∨ a.which % 12 = 3 ∨ a.which % 12 = 4 ∨ a.which % 12 = 5 ∨ a.which % 12 = 6 ∨ a.which % 12 = 7 ∨ a.which % 12 = 8 ∨ a.which % 12 = 9 ∨ a.which % 12 = 10 ∨ a.which % 12 = 11 := by omega
  have hend : ∀ (e : Ending) (w' : World), (e = .returned (.bool true) ∧ PJTo w0 w' j r (xs.length + 200)) → (e = .returned (.bool true) ∧ PJTo w0 w' j r (n + 200)) := fun e w' ⟨e1, e2⟩ => ⟨e1, e2.more (by omega)⟩
  rcases hcase with hm | hm | hm | hm | hm | hm | hm | hm | hm | hm | hm | hm
  · exact (both_0 h1 h2 (by omega) _ _ _ ha.b hm).mono hend
  · exact (both_1 h1 h2 (by omega) _ _ _ ha.b hm).mono hend
  · exact (both_2 h1 h2 (by omega) _ _ _ ha.b hm).mono hend
  · exact (both_3 h1 h2 (by omega) _ _ _ ha.b hm).mono hend
  · exact (both_4 h1 h2 (by omega) _ _ _ ha.b hm).mono hend
  · exact (both_5 h1 h2 (by omega) _ _ _ ha.b hm).mono hend
  · exact (both_6 h1 h2 (by omega) _ _ _ ha.b hm).mono hend
  · exact (both_7 h1 h2 (by omega) _ _ _ ha.b hm).mono hend
  · exact (both_8 h1 h2 (by omega) _ _ _ ha.b hm).mono hend
  · exact (both_9 h1 h2 (by omega) _ _ _ ha.b hm).mono hend
  · exact (both_10 h1 h2 (by omega) _ _ _ ha.b hm).mono hend
  · exact (both_11 h1 h2 (by omega) _ _ _ ha.b hm).mono hend
theorem PJTo.frame {w0 w : World} {j r n : Nat} (h : PJTo w0 w j r n) : Fr No w0 w := by
  obtain ⟨F, G, d, d2, xs, k, s, h1, h2, h3⟩ := h
  exact h1.fr
theorem jsOk_new : JsOk jsNew := ⟨by decide, by decide, by decide⟩
theorem PJTo.new {w w1 w2 : World} {j r d d2 : Nat} {F G : Nat → Prop} (hj : JAt w1 F j d [] 0 jsNew) (hF : ∀ i, F i → w.heap.size ≤ i) (f1 : Fr No w w1) (hr : RJAt w2 G r d2 [] 0 jsNew) (hG : ∀ i, G i → w1.heap.size ≤ i) (f2 : Fr No w1 w2) : PJTo w w2 j r 0 := by
  refine ⟨F, G, d, d2, [], 0, jsNew, ⟨hj.frNo f2, hr, fun i hi hg => ?_, hF, fun i hi => Nat.le_trans f1.size (hG i hi), f1.transNo f2⟩, jsOk_new, Nat.le_refl _⟩
  have a1 := hj.lt i hi
  have a2 := hG i hg
  omega

set_option maxRecDepth 100000 in
set_option maxHeartbeats 4000000 in
theorem JournalPlays_walk (v0 : Value) (w : World) (w0 : In_acts w v0) :
    Calls Try.prog 6 #[v0] w fun e w' => e = .returned (.bool true) ∧ Below w.heap.size w w' := by
  obtain ⟨A, len, cap, acts, rfl, hacts⟩ := w0
  have hM := hacts.most
  unfold maxLen at hM
  have HACTS := Lib.hid hacts
  clear hacts
  go_enter Try.func6, Try.ntmps6
  go_wp2_with fail
  refine (j_new _).mono ?_
  rintro e w1 ⟨j, d, F, rfl, a1, n1, f1⟩
  have A1 := Lib.hid a1
  have N1 := Lib.hid n1
  have F1 := Lib.hid f1
  clear a1 n1 f1
  go_wp2_with fail
  refine (rj_new _).mono ?_
  rintro e w2 ⟨r, d2, G, rfl, a2, n2, f2⟩
  have P2 := Lib.hid (PJTo.new A1.out N1.out F1.out a2 n2 f2)
  clear A1 N1 F1 a2 n2 f2
  go_wp2_with fail
  refine (awake8_any _).mono ?_
  rintro e w3 ⟨rfl, f3⟩
  have P3 := Lib.hid (P2.out.frNo f3)
  clear f3 P2
  by_cases h50 : len ≤ 50
  case neg =>
    have b1 : decide ((50 : Int) < (len : Int)) = true := by simp; omega
    go_wp2_with fail
    refine (awake8_any _).mono ?_
    rintro e w4 ⟨rfl, f4⟩
    have F4 := Lib.hid (P3.out.frame.transNo f4)
    clear f4
    go_wp2_with fail
    go_ret
    exact ⟨ret_bool rfl, F4.out.belowNo⟩
  have b1 : decide ((50 : Int) < (len : Int)) = false := by simp; omega
  go_wp2_with fail
  go_loopw [5] (fun o wr => ∃ m : Nat, m ≤ len ∧ o = .int .i64 m ∧ PJTo w wr j r (200 * m)) (fun o _ => len - (intOf o).toNat)
  case atStart => exact ⟨0, Nat.zero_le _, rfl, P3.out⟩
  case round =>
    obtain ⟨m, hm, rfl, hp⟩ := hrel
    clear P3
    by_cases hlt : m < len
    case neg =>
      have b2 : decide ((m : Int) < (len : Int)) = false := by simp; omega
      have HP := Lib.hid hp
      clear hp
      go_wp2_with fail
      go_ret
      exact ⟨rfl, HP.out.frame.belowNo⟩
    have b2 : decide ((m : Int) < (len : Int)) = true := by simp; omega
    obtain ⟨b, off, a, rfl, ha, hok, hcells⟩ := HACTS.out.at2 hlt
    obtain ⟨c0, c1, c2⟩ := hcells _ hp.frame
    have hi0 : (0 : Int) ≤ (m : Int) := by omega
    have hi1 : (m : Int) < (len : Int) := by omega
    clear ha hcells
    have hC := both_any hp (by omega) a hok
    clear hp hok
    have HC := Lib.hid hC
    clear hC
    go_wp2_with fail
    refine HC.out.mono ?_
    rintro e w5 ⟨rfl, p5⟩
    have P5 := Lib.hid p5
    clear p5
    go_wp2_with fail
    go_roundw
    case rel => exact ⟨m + 1, by omega, by go_num, by rw [Nat.mul_succ]; exact P5.out⟩
    case measure => simp [intOf]; omega
end Go.Proofs.Ytoiiblopnchljaa
