/-
  Several texts in one: JBoth, JOpen.
-/
import Derived.Test.YtoiiblopnchljaaQD
import Derived.Test.YtoiiblopnchljaaQA
import Derived.Test.YtoiiblopnchljaaEntE
import Derived.Deep.RegionHeld3
import Derived.Test.YtoiiblopnchljaaActs
import Derived.Deep.RegionWith
/- A journal and the reference's side by side: each call on both; the contract of the law's 'both'. -/
namespace Go.Proofs.Ytoiiblopnchljaa
open Go.ChangeShapes Go.WideShapes Go.ChangeAt Go.RowKit
set_option linter.unusedVariables false

/-- Two journals side by side that remember the same. -/
structure PJ (w0 w : World) (F G : Nat → Prop) (j r d d2 : Nat) (xs : List UInt8) (k : Nat) (s : Js) : Prop where
  jn : JAt w F j d xs k s
  rf : RJAt w G r d2 xs k s
  apart : ∀ i, F i → ¬ G i
  nj : ∀ i, F i → w0.heap.size ≤ i
  nr : ∀ i, G i → w0.heap.size ≤ i
  fr : Fr No w0 w
structure JsOk (s : Js) : Prop where
  few : s.log.length ≤ 4096
  lo : 0 ≤ s.term
  hi : s.term ≤ 1073741824
def PJTo (w0 w' : World) (j r n : Nat) : Prop := ∃ F G d d2 xs k s, PJ w0 w' F G j r d d2 xs k s ∧ JsOk s ∧ xs.length ≤ n

section
variable {w0 w w1 w2 W : World} {F G : Nat → Prop} {j r d d2 : Nat} {xs ys : List UInt8} {k m n : Nat} {s s' : Js}
theorem PJ.frNo (h : PJ w0 w F G j r d d2 xs k s) (hf : Fr No w W) : PJ w0 W F G j r d d2 xs k s := ⟨h.jn.frNo hf, h.rf.frNo hf, h.apart, h.nj, h.nr, h.fr.transNo hf⟩
theorem PJ.mid (h : PJ w0 w F G j r d d2 xs k s) (h1 : JTo w F j d ys m s' w1) : RJAt w1 G r d2 xs k s ∧ Fr F w w1 := by
  obtain ⟨F', a1, i1, f1⟩ := h1
  exact ⟨h.rf.fr f1 fun i hi hg => h.apart i hg hi, f1⟩
theorem PJ.step (h : PJ w0 w F G j r d d2 xs k s) (h1 : JTo w F j d ys m s' w1) (hf : Fr No w1 W) (h2 : RJTo W G r d2 ys m s' w2) :
    Fr (fun i => F i ∨ G i) w w2 ∧ ∃ F' G', PJ w0 w2 F' G' j r d d2 ys m s' := by
  obtain ⟨F', a1, i1, f1⟩ := h1
  obtain ⟨G', b1, j1, g1⟩ := RJTo.after hf h2
  have hg := h.rf.lt
  have hs := h.fr.size
  have hfg : ∀ i, F' i → ¬ G i := fun i hi hh => by
    rcases i1 i hi with h3 | h3
    · exact h.apart i h3 hh
    · have := hg i hh
      omega
  refine ⟨(f1.mono fun i hi => .inl hi).trans g1 fun i hi => .inl (.inr hi), F', G', a1.fr g1 hfg, b1, fun i hi hh => ?_, fun i hi => ?_, fun i hi => ?_, (h.fr.transNew f1 h.nj).transNew g1 h.nr⟩
  · rcases j1 i hh with h3 | h3
    · exact hfg i hi h3
    · have := a1.lt i hi
      omega
  · rcases i1 i hi with h3 | h3
    · exact h.nj i h3
    · omega
  · rcases j1 i hi with h3 | h3
    · exact h.nr i h3
    · have := f1.size
      omega
theorem JTo.quiet (h1 : JTo w F j d ys m s' w1) (hf : Fr No w1 W) : JTo w F j d ys m s' W := h1.trans fun F' h => h.still hf
theorem PJTo.frNo (h : PJTo w0 w j r n) (hf : Fr No w W) : PJTo w0 W j r n := by
  obtain ⟨F, G, d, d2, xs, k, s, h1, h2, h3⟩ := h
  exact ⟨F, G, d, d2, xs, k, s, h1.frNo hf, h2, h3⟩
theorem PJTo.more (h : PJTo w0 w j r n) (hn : n ≤ m) : PJTo w0 w j r m := by
  obtain ⟨F, G, d, d2, xs, k, s, h1, h2, h3⟩ := h
  exact ⟨F, G, d, d2, xs, k, s, h1, h2, Nat.le_trans h3 hn⟩
theorem PJ.ends (h : PJ w0 w F G j r d d2 xs k s) (hs : JsOk s') (hn : ys.length ≤ n) (h1 : JTo w F j d ys m s' w1) (hf : Fr No w1 W) (h2 : RJTo W G r d2 ys m s' w2) :
    Fr (fun i => F i ∨ G i) w w2 ∧ PJTo w0 w2 j r n := by
  obtain ⟨h3, F', G', h4⟩ := h.step h1 hf h2
  exact ⟨h3, F', G', d, d2, ys, m, s', h4, hs, hn⟩

theorem JsOk.set (h : JsOk s) (t v : Int) : JsOk (setTermS s t v) := by
  by_cases h0 : setTermX s t v = 0
  · have := setX_bd h0
    unfold setTermS
    rw [if_pos h0]
    exact ⟨h.few, this.1, this.2.1⟩
  · rw [setTermS_no h0]
    exact h
theorem JsOk.add (h : JsOk s) (t : Int) (e : En) : JsOk (addS s t e) := by
  by_cases h0 : addX s t e = 0
  · have := addX_bd h0
    unfold addS
    rw [if_pos h0]
    exact ⟨by simp only [List.length_append, List.length_singleton]; omega, h.lo, h.hi⟩
  · rw [addS_no h0]
    exact h
theorem JsOk.cut (h : JsOk s) (c : Int) : JsOk (cutS s c) := by
  by_cases h0 : cutX s c = 0
  · have := h.few
    unfold cutS
    rw [if_pos h0]
    exact ⟨by simp only [List.length_take]; omega, h.lo, h.hi⟩
  · rw [cutS_no h0]
    exact h
theorem set_len (t v : Int) : (if setTermX s t v = 0 then xs ++ putN 8 (recT t v) else xs).length ≤ xs.length + 200 := by
  split
  · rename_i h0
    have hr := recT_len h0
    have hp := putN_lenP 8 (recT t v) (by omega)
    rw [List.length_append]
    omega
  · omega
theorem add_len (t : Int) (e : En) (he : e.ok) : (if addX s t e = 0 then xs ++ putN 8 (recE t e) else xs).length ≤ xs.length + 200 := by
  split
  · rename_i h0
    have hr := recE_len he h0
    have hp := putN_lenP 8 (recE t e) (by omega)
    rw [List.length_append]
    omega
  · omega
theorem cut_len (h : JsOk s) (c : Int) : (if cutX s c = 0 then xs ++ putN 8 (recC c) else xs).length ≤ xs.length + 200 := by
  split
  · rename_i h0
    have hr := recC_len h.few h0
    have hp := putN_lenP 8 (recC c) (by omega)
    rw [List.length_append]
    omega
  · omega

theorem pSet_j (h : PJ w0 w F G j r d d2 xs k s) (hn : xs.length ≤ 999999000000) (t v : Int) (hf : Fr No w W) :
    Calls Try.prog 18 #[.pointer (some ⟨j, 0, none⟩), .int .i64 t, .int .i64 v] W fun e w' => e = .returned (.int .i64 (setTermX s t v)) ∧ JTo w F j d (if setTermX s t v = 0 then xs ++ putN 8 (recT t v) else xs) k (setTermS s t v) w' :=
  (j_SetTerm (h.jn.frNo hf) t v (by omega)).mono fun e w' ⟨e1, e2⟩ => ⟨e1, JTo.after hf e2⟩
theorem pSet_r (h : PJ w0 w F G j r d d2 xs k s) (hs : JsOk s) (hn : xs.length ≤ 999999000000) (t v : Int) (h1 : JTo w F j d (if setTermX s t v = 0 then xs ++ putN 8 (recT t v) else xs) k (setTermS s t v) w1) (hf : Fr No w1 W) :
    Calls Try.prog 28 #[.pointer (some ⟨r, 0, none⟩), .int .i64 t, .int .i64 v] W fun e w' => e = .returned (.int .i64 (setTermX s t v)) ∧ Fr (fun i => F i ∨ G i) w w' ∧ PJTo w0 w' j r (xs.length + 200) :=
  (rj_SetTerm ((h.mid h1).1.frNo hf) t v (by omega)).mono fun e w' ⟨e1, e2⟩ => ⟨e1, h.ends (hs.set t v) (set_len t v) h1 hf e2⟩
theorem pAdd_j (h : PJ w0 w F G j r d d2 xs k s) (hs : JsOk s) (hn : xs.length ≤ 999999000000) (t : Int) (e : En) (he : e.ok) (hf : Fr No w W) :
    Calls Try.prog 21 #[.pointer (some ⟨j, 0, none⟩), .int .i64 t, e.v] W fun x w' => x = .returned (.int .i64 (addX s t e)) ∧ JTo w F j d (if addX s t e = 0 then xs ++ putN 8 (recE t e) else xs) k (addS s t e) w' :=
  (j_Append (h.jn.frNo hf) hs.few t e he (by omega)).mono fun e w' ⟨e1, e2⟩ => ⟨e1, JTo.after hf e2⟩
theorem pAdd_r (h : PJ w0 w F G j r d d2 xs k s) (hs : JsOk s) (hn : xs.length ≤ 999999000000) (t : Int) (e : En) (he : e.ok) (h1 : JTo w F j d (if addX s t e = 0 then xs ++ putN 8 (recE t e) else xs) k (addS s t e) w1) (hf : Fr No w1 W) :
    Calls Try.prog 29 #[.pointer (some ⟨r, 0, none⟩), .int .i64 t, e.v] W fun x w' => x = .returned (.int .i64 (addX s t e)) ∧ Fr (fun i => F i ∨ G i) w w' ∧ PJTo w0 w' j r (xs.length + 200) :=
  (rj_Append ((h.mid h1).1.frNo hf) hs.few t e he (by omega)).mono fun _ w' ⟨e1, e2⟩ => ⟨e1, h.ends (hs.add t e) (add_len t e he) h1 hf e2⟩
theorem rterm (h : RJAt w G r d2 xs k s) : w.cell? ⟨r, 1, none⟩ = some (.int .i64 s.term) := by
  obtain ⟨v, Fd, h1, _⟩ := h
  exact h1.cell 1
theorem addS_term (s : Js) (t : Int) (e : En) : (addS s t e).term = s.term := by unfold addS; split <;> rfl
theorem pAdd_r2 (h : PJ w0 w F G j r d d2 xs k s) (hs : JsOk s) (hn : xs.length ≤ 999999000000) (t : Int) (e : En) (he : e.ok) (h1 : JTo w F j d (if addX s t e = 0 then xs ++ putN 8 (recE t e) else xs) k (addS s t e) w1) (hf : Fr No w1 W) :
    Calls Try.prog 29 #[.pointer (some ⟨r, 0, none⟩), .int .i64 t, e.v] W fun x w' => x = .returned (.int .i64 (addX s t e)) ∧ Fr (fun i => F i ∨ G i) w w' ∧ w'.cell? ⟨r, 1, none⟩ = some (.int .i64 s.term) ∧ PJTo w0 w' j r (xs.length + 200) :=
  (rj_Append ((h.mid h1).1.frNo hf) hs.few t e he (by omega)).mono fun _ w' ⟨e1, e2⟩ => ⟨e1, (h.ends (hs.add t e) (add_len t e he) h1 hf e2).1, by
    obtain ⟨G', b1, _, _⟩ := e2
    rw [rterm b1, addS_term], (h.ends (hs.add t e) (add_len t e he) h1 hf e2).2⟩
theorem pCut_j (h : PJ w0 w F G j r d d2 xs k s) (hs : JsOk s) (hn : xs.length ≤ 999999000000) (c : Int) (hf : Fr No w W) :
    Calls Try.prog 36 #[.pointer (some ⟨j, 0, none⟩), .int .i64 c] W fun x w' => x = .returned (.int .i64 (cutX s c)) ∧ JTo w F j d (if cutX s c = 0 then xs ++ putN 8 (recC c) else xs) k (cutS s c) w' :=
  (j_Cut (h.jn.frNo hf) c hs.few (by omega)).mono fun e w' ⟨e1, e2⟩ => ⟨e1, JTo.after hf e2⟩
theorem pCut_r (h : PJ w0 w F G j r d d2 xs k s) (hs : JsOk s) (hn : xs.length ≤ 999999000000) (c : Int) (h1 : JTo w F j d (if cutX s c = 0 then xs ++ putN 8 (recC c) else xs) k (cutS s c) w1) (hf : Fr No w1 W) :
    Calls Try.prog 30 #[.pointer (some ⟨r, 0, none⟩), .int .i64 c] W fun x w' => x = .returned (.int .i64 (cutX s c)) ∧ Fr (fun i => F i ∨ G i) w w' ∧ PJTo w0 w' j r (xs.length + 200) :=
  (rj_Cut ((h.mid h1).1.frNo hf) c hs.few (by omega)).mono fun _ w' ⟨e1, e2⟩ => ⟨e1, h.ends (hs.cut c) (cut_len hs c) h1 hf e2⟩
theorem pSync_j (h : PJ w0 w F G j r d d2 xs k s) (hf : Fr No w W) :
    Calls Try.prog 20 #[.pointer (some ⟨j, 0, none⟩)] W fun x w' => x = .returned (.tuple #[]) ∧ JTo w F j d xs xs.length s w' :=
  (j_sync (h.jn.frNo hf)).mono fun e w' ⟨e1, e2⟩ => ⟨e1, JTo.after hf e2⟩
theorem pSync_r (h : PJ w0 w F G j r d d2 xs k s) (hs : JsOk s) (h1 : JTo w F j d xs xs.length s w1) (hf : Fr No w1 W) :
    Calls Try.prog 53 #[.pointer (some ⟨r, 0, none⟩)] W fun x w' => x = .returned (.tuple #[]) ∧ Fr (fun i => F i ∨ G i) w w' ∧ PJTo w0 w' j r (xs.length + 200) :=
  (rj_sync ((h.mid h1).1.frNo hf)).mono fun _ w' ⟨e1, e2⟩ => ⟨e1, h.ends hs (by omega) h1 hf e2⟩
theorem pCrash_j (h : PJ w0 w F G j r d d2 xs k s) (c : Int) (hf : Fr No w W) :
    Calls Try.prog 11 #[.pointer (some ⟨j, 0, none⟩), .int .i64 c] W fun x w' => x = .returned (.tuple #[]) ∧ JTo w F j d ((xs.take (crashN xs.length k c)).take (playJ (xs.take (crashN xs.length k c))).1) (min (crashN xs.length k c) (playJ (xs.take (crashN xs.length k c))).1) (playJ (xs.take (crashN xs.length k c))).2 w' :=
  (j_crash (h.jn.frNo hf) c).mono fun e w' ⟨e1, e2⟩ => ⟨e1, JTo.after hf e2⟩
theorem pCrash_r (h : PJ w0 w F G j r d d2 xs k s) (hn : xs.length ≤ 999999000000) (c : Int) (h1 : JTo w F j d ((xs.take (crashN xs.length k c)).take (playJ (xs.take (crashN xs.length k c))).1) (min (crashN xs.length k c) (playJ (xs.take (crashN xs.length k c))).1) (playJ (xs.take (crashN xs.length k c))).2 w1) (hf : Fr No w1 W) :
    Calls Try.prog 54 #[.pointer (some ⟨r, 0, none⟩), .int .i64 c] W fun x w' => x = .returned (.tuple #[]) ∧ Fr (fun i => F i ∨ G i) w w' ∧ PJTo w0 w' j r (xs.length + 200) :=
  (rj_crash ((h.mid h1).1.frNo hf) c (by omega)).mono fun _ w' ⟨e1, e2⟩ => ⟨e1, h.ends ⟨playJ_len _, (playJ_term _).1, (playJ_term _).2⟩ (by simp only [List.length_take]; omega) h1 hf e2⟩
theorem pSame (h : PJTo w0 w j r n) :
    Calls Try.prog 32 #[.pointer (some ⟨j, 0, none⟩), .pointer (some ⟨r, 0, none⟩)] w fun x w' => x = .returned (.bool true) ∧ PJTo w0 w' j r n := by
  have h0 := h
  obtain ⟨F, G, d, d2, xs, k, s, h1, h2, h3⟩ := h
  exact (same8_any h1.jn h1.rf h2.few).mono fun _ w' ⟨e1, e2⟩ => ⟨e1, h0.frNo e2⟩
end
end Go.Proofs.Ytoiiblopnchljaa
/- The walk of JournalOpens. -/
namespace Go.Proofs.Ytoiiblopnchljaa
open Go.ChangeShapes Go.WideShapes Go.ChangeAt Go.RowKit
set_option linter.unusedVariables false

/-- The reference's journal of the call's own, with n bytes at most. -/
def RO (w0 w : World) (r n : Nat) : Prop := ∃ G d xs k s, RJAt w G r d xs k s ∧ JsOk s ∧ xs.length ≤ n ∧ (∀ i, G i → w0.heap.size ≤ i) ∧ Fr No w0 w
theorem RO.frNo {w0 w W : World} {r n : Nat} (h : RO w0 w r n) (hf : Fr No w W) : RO w0 W r n := by
  obtain ⟨G, d, xs, k, s, h1, h2, h3, h4, h5⟩ := h
  exact ⟨G, d, xs, k, s, h1.frNo hf, h2, h3, h4, h5.transNo hf⟩
theorem RO.frame {w0 w : World} {r n : Nat} (h : RO w0 w r n) : Fr No w0 w := by
  obtain ⟨G, d, xs, k, s, h1, h2, h3, h4, h5⟩ := h
  exact h5
theorem RO.of {w0 w w' : World} {G : Nat → Prop} {r d n k : Nat} {xs : List UInt8} {s : Js} (h : RJTo w G r d xs k s w') (hs : JsOk s) (hn : xs.length ≤ n) (hG : ∀ i, G i → w0.heap.size ≤ i) (hf : Fr No w0 w) : RO w0 w' r n := by
  obtain ⟨F', g1, g2, g3⟩ := h.own hf hG
  exact ⟨F', d, xs, k, s, g1, hs, hn, g2, g3⟩
section
variable {w0 w W : World} {G : Nat → Prop} {r d n k : Nat} {xs : List UInt8} {s : Js}
theorem ro_set (h : RJAt w G r d xs k s) (hs : JsOk s) (hn : xs.length ≤ n) (hG : ∀ i, G i → w0.heap.size ≤ i) (hf : Fr No w0 w) (hn2 : n ≤ 999999000000) (t v : Int) (hW : Fr No w W) :
    Calls Try.prog 28 #[.pointer (some ⟨r, 0, none⟩), .int .i64 t, .int .i64 v] W fun e w' => ∃ X, e = .returned (.int .i64 X) ∧ RO w0 w' r (n + 200) :=
  (rj_SetTerm (h.frNo hW) t v (by omega)).mono fun e w' ⟨e1, e2⟩ => ⟨_, e1, RO.of e2 (hs.set t v) (Nat.le_trans (set_len t v) (by omega)) hG (hf.transNo hW)⟩
theorem ro_add (h : RJAt w G r d xs k s) (hs : JsOk s) (hn : xs.length ≤ n) (hG : ∀ i, G i → w0.heap.size ≤ i) (hf : Fr No w0 w) (hn2 : n ≤ 999999000000) (t : Int) (e : En) (he : e.ok) (hW : Fr No w W) :
    Calls Try.prog 29 #[.pointer (some ⟨r, 0, none⟩), .int .i64 t, e.v] W fun e w' => ∃ X, e = .returned (.int .i64 X) ∧ RO w0 w' r (n + 200) :=
  (rj_Append (h.frNo hW) hs.few t e he (by omega)).mono fun _ w' ⟨e1, e2⟩ => ⟨_, e1, RO.of e2 (hs.add t e) (Nat.le_trans (add_len t e he) (by omega)) hG (hf.transNo hW)⟩
theorem ro_cut (h : RJAt w G r d xs k s) (hs : JsOk s) (hn : xs.length ≤ n) (hG : ∀ i, G i → w0.heap.size ≤ i) (hf : Fr No w0 w) (hn2 : n ≤ 999999000000) (c : Int) (hW : Fr No w W) :
    Calls Try.prog 30 #[.pointer (some ⟨r, 0, none⟩), .int .i64 c] W fun e w' => ∃ X, e = .returned (.int .i64 X) ∧ RO w0 w' r (n + 200) :=
  (rj_Cut (h.frNo hW) c hs.few (by omega)).mono fun _ w' ⟨e1, e2⟩ => ⟨_, e1, RO.of e2 (hs.cut c) (Nat.le_trans (cut_len hs c) (by omega)) hG (hf.transNo hW)⟩
end
/-- A store at k into a row of the call's own. -/
theorem Own.storedJ {w : World} {F : Nat → Prop} {e : TypeId} {b n c : Nat} {xs : List Value} (h : Own w F e (.slice (some ⟨b, 0, none⟩) n c) xs) (k : Nat) (u : Value) :
    Own (w.setCell ⟨b, k, none⟩ u) F e (.slice (some ⟨b, 0, none⟩) n c) (xs.set k u) ∧ Fr F w (w.setCell ⟨b, k, none⟩ u) := by
  obtain ⟨rfl, _⟩ := h.len
  refine ⟨⟨?_, h.2⟩, (Fr.refl F w).setCell (p := ⟨b, k, none⟩) (.inl (h.2 b rfl)) u⟩
  have := (h.1.stored k u).1
  rwa [List.length_set]
theorem Own.headJ {w : World} {F : Nat → Prop} {e : TypeId} {A : Option Addr} {n c : Nat} {xs : List Value} (h : Own w F e (.slice A n c) xs) (hp : 0 < n) :
    ∃ b, A = some ⟨b, 0, none⟩ ∧ b < w.heap.size ∧ F b ∧ ∀ k, (hk : k < xs.length) → w.cell? ⟨b, k, none⟩ = some xs[k] ∧ w.frozen? ⟨b, k, none⟩ = false := by
  obtain ⟨rfl, _⟩ := h.len
  obtain ⟨g, cap, hv, _, hlt⟩ := h.1.form hp
  injection hv with e1 e2 e3
  subst e1 e3
  refine ⟨g, rfl, hlt, h.2 g rfl, fun k hk => ⟨?_, h.1.frozenAt k⟩⟩
  rw [h.1.cellAt k (by omega), List.getElem?_eq_getElem hk]

/-- One byte was changed, or none where there are none. -/
def KP (wr : World) (Ab : Option Addr) (n cb : Nat) (x : Value) (wx : World) : Prop :=
  ∃ (kk : Nat) (ys : List UInt8), x = .int .i64 (kk : Int) ∧ kk ≤ n ∧ ys.length = n ∧ Own wx (fun i => wr.heap.size ≤ i) 5 (.slice Ab n cb) (ys.map bv) ∧ Fr No wr wx
/-- Five byte strings. -/
def Op5 (w0 : World) (x : Value) (wx : World) : Prop := ∃ b rs, x = .slice (some ⟨b, 0, none⟩) 5 5 ∧ rs.length = 5 ∧ RowsAt wx (some ⟨b, 0, none⟩) rs ∧ (∀ r ∈ rs, r.length ≤ 20000) ∧ Fr No w0 wx

set_option maxRecDepth 100000 in
set_option maxHeartbeats 8000000 in
theorem JournalOpens_walk (v0 : Value) (a1 : Option Addr) (len1 cap1 : Nat) (z1 : List Int) (a2 a3 : Int) (w : World) (w0 : In_acts w v0) (w1 : IsRow .u8 w a1 len1 cap1 z1) (w2 : (Lit.int .i64 a2).wf = true) (w3 : (Lit.int .u8 a3).wf = true) (s1 : cap1 * 1 ≤ 140737488351232) :
    Calls Try.prog 7 #[v0, .slice a1 len1 cap1, .int .i64 a2, .int .u8 a3] w fun e w' => e = .returned (.bool true) ∧ Below w.heap.size w w' := by
  obtain ⟨A, len, cap, acts, rfl, hacts⟩ := w0
  obtain ⟨raw, hraw, -, hlc, hrn, hrr⟩ := w1.open_
  have b3 := bounds_u8 w3
  obtain ⟨cby, rfl⟩ : ∃ c : UInt8, a3 = (c.toNat : Int) := ⟨UInt8.ofNat a3.toNat, by rw [UInt8.toNat_ofNat']; omega⟩
  have hM := hacts.most
  unfold maxLen at hM
  obtain ⟨i0, hi0, hz0, hz1, hz2⟩ := info_parts bytes_info
  clear w1 w2 w3 b3
  have HACTS := Lib.hid hacts
  have HRAW := Lib.hid hraw
  have HRN := Lib.hid hrn
  have HRR := Lib.hid hrr
  clear hacts hraw hrn hrr
  go_enter Try.func7, Try.ntmps7
  go_wp2_with fail
  refine (rj_new _).mono ?_
  rintro e wa ⟨r, d, G, rfl, aa, na, fa⟩
  have R1 := Lib.hid (show RO w wa r 0 from ⟨G, d, [], 0, jsNew, aa, ⟨by decide, by decide, by decide⟩, Nat.le_refl _, na, fa⟩)
  clear aa na fa
  by_cases h50 : len ≤ 50
  case neg =>
    have b1 : decide ((50 : Int) < (len : Int)) = true := by simp; omega
    go_wp2_with fail
    refine (awake8_any _).mono ?_
    rintro e w4 ⟨rfl, f4⟩
    have F4 := Lib.hid (R1.out.frame.transNo f4)
    clear f4
    go_wp2_with fail
    go_ret
    exact ⟨rfl, F4.out.belowNo⟩
  have b1 : decide ((50 : Int) < (len : Int)) = false := by simp; omega
  by_cases h300 : len1 ≤ 300
  case neg =>
    have b2 : decide ((300 : Int) < (len1 : Int)) = true := by simp; omega
    go_wp2_with fail
    refine (awake8_any _).mono ?_
    rintro e w4 ⟨rfl, f4⟩
    have F4 := Lib.hid (R1.out.frame.transNo f4)
    clear f4
    go_wp2_with fail
    go_ret
    exact ⟨rfl, F4.out.belowNo⟩
  have b2 : decide ((300 : Int) < (len1 : Int)) = false := by simp; omega
  go_wp2_with fail
  clear b1 b2
  go_loopw [10] (fun o wr => ∃ m : Nat, m ≤ len ∧ o = .int .i64 m ∧ RO w wr r (200 * m)) (fun o _ => len - (intOf o).toNat)
  case atStart => exact ⟨0, Nat.zero_le _, rfl, R1.out⟩
  case round =>
    obtain ⟨m, hm, rfl, hro⟩ := hrel
    clear R1
    by_cases hlt : m < len
    · have b2 : decide ((m : Int) < (len : Int)) = true := by simp; omega
      obtain ⟨b, off, a, rfl, -, hok, hcells⟩ := HACTS.out.at2 hlt
      obtain ⟨G, d, xs, k, s, h1, h2, h3, h4, h5⟩ := hro
      obtain ⟨Al, cl, Fd, r1, -, -, -, -, -, -, -, -, -, -, -, -⟩ := h1.open_
      have hrk : ∀ V, Fr No wr V → V.cell? ⟨r, 1, none⟩ = some (.int .i64 s.term) ∧ V.cell? ⟨r, 3, none⟩ = some (.slice Al s.log.length cl) ∧ V.cell? ⟨b, off + m * 3, none⟩ = some (.int .i64 a.which) ∧ V.cell? ⟨b, off + m * 3 + 1, none⟩ = some (.int .i64 a.a) ∧ V.cell? ⟨b, off + m * 3 + 2, none⟩ = some (.int .i64 a.b) := fun V hV => let q := r1.fr hV (fun h => h); ⟨q.cell 1, q.cell 3, hcells V (h5.transNo hV)⟩
      have hset := fun V t v (hf : Fr No wr V) => ro_set h1 h2 h3 h4 h5 (by omega) t v hf
      have hcut := fun V c (hf : Fr No wr V) => ro_cut h1 h2 h3 h4 h5 (by omega) c hf
      have h1000 := Int.emod_nonneg a.b (b := 1000) (by decide)
      have h1001 := Int.emod_lt_of_pos a.b (b := 1000) (by decide)
      have hadd := fun V t (hf : Fr No wr V) => ro_add h1 h2 h3 h4 h5 (by omega) t (noteE (a.b % 1000)) (noteE_ok (a.b % 1000) h1000 h1001) hf
      have hN := fun V => note_any a.b V
      have hrr := r1.lt
      have hlo := h2.lo
      have hhi := h2.hi
      have hfew := h2.few
      have hw1 : IntKind.i64.wrap (s.term + 1) = s.term + 1 := IntWalk.i64_in _ (by omega)
      have hw3 : IntKind.i64.wrap ((s.log.length : Int) + 1) = (s.log.length : Int) + 1 := IntWalk.i64_in _ (by omega)
      have hi1 : (0 : Int) ≤ (m : Int) := by omega
      have hi2 : (m : Int) < (len : Int) := by omega
      obtain ⟨c1, c3, e0, e1, e2⟩ := hrk _ (Fr.refl _ _)
      have hMM := fun W => mod_any a.which 3 W (by decide) (by decide)
      have hm0 := Int.emod_nonneg a.which (b := 3) (by decide)
      have hm1 := Int.emod_lt_of_pos a.which (b := 3) (by decide)
      generalize a.which % 3 = m3 at *
      generalize a.b % 1000 = bm at *
      have hEV : (noteE bm).v = .agg #[.int .i64 16, .int .i64 0, .int .i64 (-1), .int .i64 (-1), .int .i64 (-1), .int .i64 0, .int .i64 0, .int .i64 0, .int .i64 bm] := rfl
      simp only [hEV] at hN hadd
      have hMC := fun W => mod_any a.a ((s.log.length : Int) + 1) W (by omega) (by omega)
      generalize s.term = tm at *
      generalize s.log.length = ll at *
      generalize a.a % ((ll : Int) + 1) = cc at *
      clear r1 h1 h2 h3 h4 h5 hok hcells hEV h1000 h1001
      have HRK := Lib.hid hrk
      have HSET := Lib.hid hset
      have HCUT := Lib.hid hcut
      have HADD := Lib.hid hadd
      have HN := Lib.hid hN
      have HMM := Lib.hid hMM
      have HMC := Lib.hid hMC
      clear hrk hset hcut hadd hN hMM hMC
      have hcase : m3 = 0 ∨ m3 = 1 ∨ m3 = 2 := by omega
      clear hm0 hm1
      go_wp2_with fail
      refine (HMM.out _).mono ?_
      rintro e w' ⟨rfl, rfl⟩
      rcases hcase with rfl | rfl | rfl
      · go_wp2_with fail
        go_region_with (first
          | (go_at_call 19; refine (between_in _ _ _ _ (by omega) (by omega) (by omega)).mono ?_; rintro e w' ⟨y, rfl, -, -, rfl⟩)
          | (go_at_call 28; refine (HSET.out _ _ _ (by repeat (first | assumption | exact Fr.refl _ _ | refine Fr.alloc ?_ _ | refine Fr.drew ?_ | refine Fr.drewN ?_ _))).mono ?_; rintro e w5 ⟨X, rfl, p5⟩; have P5 := Lib.hid p5; clear p5))
        all_goals
          go_wp2_with fail
          go_roundw
          case rel => exact ⟨m + 1, by omega, by go_num, by rw [Nat.mul_succ]; exact P5.out⟩
          case measure => simp [intOf]; omega
      · go_wp2_with fail
        go_region_with (first
          | (go_at_call 22; refine (HN.out _).mono ?_; rintro e w4 ⟨rfl, f4⟩; have F4 : Fr No wr w4 := Fr.transNo (by repeat (first | assumption | exact Fr.refl _ _ | refine Fr.alloc ?_ _ | refine Fr.drew ?_ | refine Fr.drewN ?_ _)) f4; obtain ⟨x1, x3, y0, y1, y2⟩ := HRK.out _ F4; clear f4)
          | (go_at_call 29; refine (HADD.out _ _ (by repeat (first | assumption | exact Fr.refl _ _ | refine Fr.alloc ?_ _ | refine Fr.drew ?_ | refine Fr.drewN ?_ _))).mono ?_; rintro e w5 ⟨X, rfl, p5⟩; have P5 := Lib.hid p5; clear p5))
        all_goals
          go_wp2_with fail
          go_roundw
          case rel => exact ⟨m + 1, by omega, by go_num, by rw [Nat.mul_succ]; exact P5.out⟩
          case measure => simp [intOf]; omega
      · go_wp2_with fail
        go_region_with (first
          | (go_at_call 27; refine (HMC.out _).mono ?_; rintro e w' ⟨rfl, rfl⟩)
          | (go_at_call 30; refine (HCUT.out _ _ (by repeat (first | assumption | exact Fr.refl _ _ | refine Fr.alloc ?_ _ | refine Fr.drew ?_ | refine Fr.drewN ?_ _))).mono ?_; rintro e w5 ⟨X, rfl, p5⟩; have P5 := Lib.hid p5; clear p5))
        all_goals
          go_wp2_with fail
          go_roundw
          case rel => exact ⟨m + 1, by omega, by go_num, by rw [Nat.mul_succ]; exact P5.out⟩
          case measure => simp [intOf]; omega
    · have b2 : decide ((m : Int) < (len : Int)) = false := by simp; omega
      obtain ⟨G, d, xs, k, s, h1, h2, h3, h4, h5⟩ := hro
      obtain ⟨Ad, cd, q1, nd, hcd, rd, od⟩ := h1.bytes
      have p0 := h1.ptr
      have hrl : r < wr.heap.size := World.block_lt_of_cell? wr ⟨r, 0, none⟩ p0
      have hdl : d < wr.heap.size := World.block_lt_of_cell? wr ⟨d, 0, none⟩ q1
      have hk : ∀ V, Fr No wr V → V.cell? ⟨r, 0, none⟩ = some (.pointer (some ⟨d, 0, none⟩)) ∧ V.cell? ⟨d, 0, none⟩ = some (.slice Ad xs.length cd) := fun V hf => ⟨by rw [hf.cell (p := ⟨r, 0, none⟩) hrl (fun h => h)]; exact p0, by rw [hf.cell (p := ⟨d, 0, none⟩) hdl (fun h => h)]; exact q1⟩
      have hnl : xs.length ≤ 10000 := by omega
      clear h1 h2 h3 h4 od HACTS
      obtain ⟨n, hnn⟩ : ∃ n, n = xs.length := ⟨_, rfl⟩
      rw [← hnn] at q1 nd hcd hk hnl
      have ND := Lib.hid nd
      have RD := Lib.hid rd
      have HK := Lib.hid hk
      have H5 := Lib.hid h5
      have HNN := Lib.hid hnn
      clear nd rd hk h5 hnn
      go_wp2_with (at_builtin; refine wpList_append_rd _ rfl (.tmp 81) (.tmp 88) _ rfl 0 5 i0 _ 1 Try.underlying52 hi0 hz0 hz1 hz2 rfl (.slice (some ⟨wr.heap.size, 0, none⟩) 0 0) 0 [] rfl (Own.made wr 5).1 wr.heap.size Ad n cd (xs.map bv) rfl ?c1 ?c2 ?c3 (bv_one xs) ?c4 ?c5 (Nat.zero_le _) ?_)
      case c1 => exact ND.out
      case c2 => exact RD.out.frNo (fr_alloc _ _) (Nat.le_refl _)
      case c3 => rw [List.length_map, HNN.out]
      case c4 => unfold maxLen; omega
      case c5 => omega
      intro v4 w4 happ
      obtain ⟨o4, f4⟩ := (Own.made wr 5).appendedNew (by simp) rfl (by rw [List.length_map, HNN.out]) happ
      rw [List.nil_append] at o4
      have fz4 := (fr_alloc wr (.cells #[] 5)).transNew f4 fun i hi => hi
      obtain ⟨Ab, cb, rfl, nb⟩ := o4.form
      rw [List.length_map, ← HNN.out] at o4 nb ⊢
      have hcb := o4.cap.1
      clear happ f4 p0 q1 b2
      have O4 := Lib.hid o4
      have FZ4 := Lib.hid fz4
      have NB := Lib.hid nb
      clear o4 fz4 nb
      go_upto_if 92 with fail
      go_cut [12] (fun x wx => KP wr Ab n cb x wx)
      case first =>
        by_cases hn0 : n = 0
        · subst hn0
          go_wp2_with fail
          go_meet
          exact ⟨0, xs, rfl, Nat.le_refl _, HNN.out.symm, O4.out, FZ4.out⟩
        · have hpos : 0 < n := by omega
          have b5 : decide ((0 : Int) < (n : Int)) = true := by simp; omega
          have hMM := fun W => mod_any a2 (n : Int) W (by omega) (by omega)
          have hm0 := Int.emod_nonneg a2 (b := (n : Int)) (by omega)
          have hm1 := Int.emod_lt_of_pos a2 (b := (n : Int)) (by omega)
          obtain ⟨kk, hkk⟩ : ∃ kk : Nat, a2 % (n : Int) = (kk : Int) := ⟨(a2 % (n : Int)).toNat, by omega⟩
          rw [hkk] at hm1
          simp only [hkk] at hMM
          clear hkk hm0
          obtain ⟨bb, rfl, hbl, -, hbc⟩ := O4.out.headJ hpos
          obtain ⟨x0, x1⟩ := hbc kk (by rw [List.length_map, ← HNN.out]; omega)
          obtain ⟨o5, f5⟩ := O4.out.storedJ kk (bv cby)
          have hsl : (xs.set kk cby).length = n := by rw [List.length_set, HNN.out]
          rw [← List.map_set] at o5
          have fz5 := FZ4.out.transNew f5 fun i hi => hi
          generalize (xs.map bv)[kk]'_ = old at x0
          have hk1 : (0 : Int) ≤ (kk : Int) := by omega
          have hk2 : kk < n := by omega
          clear hbc f5
          have O5 := Lib.hid o5
          have FZ5 := Lib.hid fz5
          have HMM := Lib.hid hMM
          have HSL := Lib.hid hsl
          clear o5 fz5 hMM hsl
          go_wp2_with fail
          refine (HMM.out _).mono ?_
          rintro e w' ⟨rfl, rfl⟩
          go_wp2_with fail
          go_meet
          exact ⟨kk, xs.set kk cby, rfl, by omega, HSL.out, O5.out, FZ5.out⟩
      case rest =>
        obtain ⟨kk, ys, rfl, hkn, hyl, o5, f5⟩ := hcut
        obtain ⟨W, rfl⟩ : ∃ W : World, W = wc := ⟨_, rfl⟩
        clear O4 FZ4
        obtain ⟨c0, c1⟩ := HK.out _ f5
        have hkc : kk ≤ cd := by omega
        have hk1 : (0 : Int) ≤ (kk : Int) := by omega
        have hk2 : (kk : Int) ≤ (cd : Int) := by omega
        have rk : Rd wr wr.heap.size Ad ((xs.take kk).map bv) := by rw [List.map_take]; exact RD.out.take kk
        have FW := Lib.hid f5
        have O5 := Lib.hid o5
        have RK := Lib.hid rk
        have HYL := Lib.hid hyl
        clear o5 rk hyl
        go_upto_region 18 with fail
        go_cut [13] (fun x wx => Op5 wr x wx)
        case first =>
          go_region_held3 (fun V => Fr No W V ∧ V.cell? ⟨r, 0, none⟩ = some (.pointer (some ⟨d, 0, none⟩)) ∧ V.cell? ⟨d, 0, none⟩ = some (.slice Ad n cd)) (exact ⟨(by repeat (first | assumption | exact Fr.refl _ _ | refine Fr.alloc ?_ _ | refine Fr.drew ?_ | refine Fr.drewN ?_ _)), HK.out _ (FW.out.transNo (by repeat (first | assumption | exact Fr.refl _ _ | refine Fr.alloc ?_ _ | refine Fr.drew ?_ | refine Fr.drewN ?_ _)))⟩) (first
            | (refine step_append_rd _ (by rfl) (.tmp 119) (.tmp 126) _ (by rfl) 0 5 i0 _ 1 Try.underlying52 hi0 hz0 hz1 hz2 rfl (.slice (some ⟨W.heap.size, 0, none⟩) 0 0) 0 [] (by rfl) (by exact (Own.made W 5).1) wr.heap.size Ad n cd (xs.map bv) (by rfl) ND.out (RD.out.frNo (FW.out.transNo (by repeat (first | assumption | exact Fr.refl _ _ | refine Fr.alloc ?_ _ | refine Fr.drew ?_ | refine Fr.drewN ?_ _))) (Nat.le_refl _)) (by rw [List.length_map, HNN.out]) (bv_one _) (by unfold maxLen; omega) (by omega) (Nat.zero_le _) ?_; intro v6 w6 happ; obtain ⟨o6, f6⟩ := Own.copied (w := W) happ rfl (by rw [List.length_map, HNN.out]); have F6 : Fr No W w6 := Fr.transNew (by repeat (first | assumption | exact Fr.refl _ _ | refine Fr.alloc ?_ _ | refine Fr.drew ?_ | refine Fr.drewN ?_ _)) f6 (fun i hi => hi); obtain ⟨A6, c6, rfl, n6⟩ := o6.form; rw [List.length_map, ← HNN.out] at o6 ⊢; have O6 := Lib.hid o6; clear happ o6 f6 n6)
            | (refine step_append_rd _ (by rfl) (.tmp 127) (.tmp 128) _ (by rfl) 0 5 i0 _ 1 Try.underlying52 hi0 hz0 hz1 hz2 rfl (.slice A6 n c6) n (xs.map bv) (by rfl) (by exact O6.out.own (by rw [List.length_map, HNN.out])) w.heap.size a1 len1 cap1 (raw.map bv) (by rfl) HRN.out (HRR.out.frNo (H5.out.transNo (FW.out.transNo (by repeat (first | assumption | exact Fr.refl _ _ | refine Fr.alloc ?_ _ | refine Fr.drew ?_ | refine Fr.drewN ?_ _)))) (Nat.le_refl _)) (by rw [List.length_map, HRAW.out]) (bv_one _) (by unfold maxLen; omega) (by omega) (Nat.zero_le _) ?_; intro v7 w7 happ; obtain ⟨o7, f7⟩ := O6.out.appendedNew F6.size (by rw [List.length_map, HNN.out]) (by rw [List.length_map, HRAW.out]) happ; rw [← List.map_append] at o7; have F7 : Fr No W w7 := Fr.transNew F6 f7 (fun i hi => hi); obtain ⟨A7, c7, rfl, n7⟩ := o7.form; rw [List.length_map] at o7 ⊢; have O7 := Lib.hid o7; clear happ o7 f7 n7))
          all_goals
            go_wp2_with fail
            go_meet
            have hm := HNN.out
            have hll := HRAW.out
            have hyl := HYL.out
            have htl : (xs.take kk).length = kk := by rw [List.length_take]; omega
            have F8 := F7.alloc (.cells #[.slice a1 len1 cap1, .slice Ad n cd, .slice Ab n cb, .slice Ad kk cd, .slice A7 (xs.length + raw.length) c7] 52)
            have F9 := FW.out.transNo F8
            refine ⟨_, [raw, xs, ys, xs.take kk, xs ++ raw], rfl, rfl, ⟨[⟨a1, cap1, raw⟩, ⟨Ad, cd, xs⟩, ⟨Ab, cb, ys⟩, ⟨Ad, cd, xs.take kk⟩, ⟨A7, c7, xs ++ raw⟩], rfl, ?_, ?_⟩, ?_, F9⟩
            · have heq : ([⟨a1, cap1, raw⟩, ⟨Ad, cd, xs⟩, ⟨Ab, cb, ys⟩, ⟨Ad, cd, xs.take kk⟩, ⟨A7, c7, xs ++ raw⟩] : List BRow).map BRow.v = [.slice a1 len1 cap1, .slice Ad n cd, .slice Ab n cb, .slice Ad kk cd, .slice A7 (xs.length + raw.length) c7] := by simp [BRow.v, ← hm, htl, hll, hyl]
              rw [heq]
              exact (Rd.new w7 _ 52 rfl).mono (by simp)
            · intro e he
              simp only [List.mem_cons, List.not_mem_nil, or_false] at he
              rcases he with rfl | rfl | rfl | rfl | rfl
              · exact ⟨by simp only [hll]; exact HRN.out, by simp only [hll]; exact hlc, ((HRR.out.frNo (H5.out.transNo F9) (Nat.le_refl _)).mono (H5.out.transNo F9).size)⟩
              · exact ⟨by simp only [← hm]; exact ND.out, by simp only [← hm]; exact hcd, ((RD.out.frNo F9 (Nat.le_refl _)).mono F9.size)⟩
              · exact ⟨by simp only [hyl]; exact O5.out.len.2, by simp only [hyl]; exact hcb, ((O5.out.rd.frNo F8 (Nat.le_refl _)).mono F8.size)⟩
              · exact ⟨by simp only [htl]; exact fun h => by have := ND.out h; omega, by simp only [htl]; exact hkc, ((RK.out.frNo F9 (Nat.le_refl _)).mono F9.size)⟩
              · exact ⟨O7.out.len.2, O7.out.cap.1, (O7.out.frNo (fr_alloc w7 _)).rd⟩
            · intro q hq
              simp only [List.mem_cons, List.not_mem_nil, or_false] at hq
              rcases hq with rfl | rfl | rfl | rfl | rfl
              · omega
              · omega
              · omega
              · omega
              · rw [List.length_append]; omega
        case rest =>
          obtain ⟨bx, rs, rfl, h5l, hrw, hsz, hf5⟩ := hcut
          obtain ⟨W2, rfl⟩ : ∃ W2 : World, W2 = wc := ⟨_, rfl⟩
          have G4 := Lib.hid (H5.out.transNo hf5)
          clear O5 FW RK HYL RD ND HK HNN H5 HRAW HRN HRR hf5 c0 c1
          have HRW := Lib.hid hrw
          have HSZ := Lib.hid hsz
          have H5L := Lib.hid h5l
          clear hrw hsz h5l
          go_wp2_with fail
          go_loopw [14] (fun o wr => ∃ m : Nat, m ≤ 5 ∧ o = .int .i64 m ∧ Fr No W2 wr) (fun o _ => 5 - (intOf o).toNat)
          case atStart => exact ⟨0, Nat.zero_le _, rfl, Fr.refl _ _⟩
          case round =>
            obtain ⟨m, hm5, rfl, fv⟩ := hrel
            by_cases hl5 : m < 5
            · have b6 : decide ((m : Int) < 5) = true := by simp; omega
              obtain ⟨bb, off, en, hA, hen, hok, hcl⟩ := HRW.out.at_ (i := m) (by rw [H5L.out]; exact hl5)
              injection hA with hA
              injection hA with hA1 hA2
              subst hA1 hA2
              have hel := HSZ.out en.b (List.mem_of_getElem? hen)
              have hok2 := hok.no fv
              have cl := hcl wr fv
              obtain ⟨Ae, ce, be⟩ := en
              simp only [BRow.v] at cl hel
              have hop := j_open Ae be.length ce be wr wr.heap.size hok2.nil_ hok2.rd rfl (Nat.le_refl _) (by omega)
              have hrop := fun V (hf : Fr No wr V) => rj_open Ae be.length ce be V wr.heap.size hok2.nil_ (hok2.rd.frNo hf (Nat.le_refl _)) rfl hf.size (by omega)
              have hfew := playJ_len be
              have hclV := fun V (hf : Fr No wr V) => hcl V (fv.transNo hf)
              generalize (playJ be).2 = S at *
              generalize be.take (playJ be).1 = Y at *
              generalize min be.length (playJ be).1 = K at *
              have hi1 : (0 : Int) ≤ (m : Int) := by omega
              have hi2 : (m : Int) < 5 := by omega
              simp only [BRow.v, Nat.zero_add] at hclV cl
              clear hok hok2 hcl hen
              have FV := Lib.hid fv
              clear fv
              have HOP := Lib.hid hop
              have HROP := Lib.hid hrop
              have HCLV := Lib.hid hclV
              clear hop hrop hclV
              go_wp2_with fail
              refine HOP.out.mono ?_
              rintro e w6 ⟨j, dj, F, rfl, aj, nj, fj⟩
              have cl6 := HCLV.out _ fj
              have AJ := Lib.hid aj
              have FJ := Lib.hid fj
              clear aj fj
              clear nj cl
              go_wp2_with fail
              refine (HROP.out _ FJ.out).mono ?_
              rintro e w7 ⟨r2, d2, G2, rfl, ar, nr, fr⟩
              have hsm := same8_any (AJ.out.frNo fr) ar hfew
              have F7 := Lib.hid (FJ.out.transNo fr)
              clear ar nr fr cl6
              have HSM := Lib.hid hsm
              clear hsm
              go_wp2_with fail
              refine HSM.out.mono ?_
              rintro e w8 ⟨rfl, f8⟩
              have F8 := Lib.hid (FV.out.transNo (F7.out.transNo f8))
              clear f8
              go_wp2_with fail
              go_roundw
              case rel => exact ⟨m + 1, by omega, by go_num, F8.out⟩
              case measure => simp [intOf]; omega
            · have b6 : decide ((m : Int) < 5) = false := by simp; omega
              have FV := Lib.hid (G4.out.transNo fv)
              clear fv
              go_wp2_with fail
              refine (awake8_any _).mono ?_
              rintro e w4 ⟨rfl, f4⟩
              have F4 := Lib.hid (FV.out.transNo f4)
              clear f4
              go_wp2_with fail
              go_ret
              exact ⟨rfl, F4.out.belowNo⟩
end Go.Proofs.Ytoiiblopnchljaa
