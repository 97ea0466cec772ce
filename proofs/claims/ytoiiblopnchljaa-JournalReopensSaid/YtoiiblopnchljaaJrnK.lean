/-
  The walk of JournalKeeps.
-/
import Derived.Test.YtoiiblopnchljaaJrnI
import Derived.Test.YtoiiblopnchljaaLgEq
import Derived.Test.YtoiiblopnchljaaRowI
import Derived.BigQuiet
namespace Go.Proofs.Ytoiiblopnchljaa
open Go.ChangeShapes Go.WideShapes Go.ChangeAt Go.RowKit
set_option linter.unusedVariables false

/-- The cells of an entry of a list of entries. -/
def LgCells (W : World) (b : Nat) (k : Nat) (x : Lg) : Prop :=
  W.cell? ⟨b, k * 10, none⟩ = some (.int .i64 x.term) ∧ W.cell? ⟨b, k * 10 + 1, none⟩ = some (.int .i64 x.e.kind) ∧ W.cell? ⟨b, k * 10 + 2, none⟩ = some (.int .i64 x.e.tick) ∧ W.cell? ⟨b, k * 10 + 3, none⟩ = some (.int .i64 x.e.tenant) ∧ W.cell? ⟨b, k * 10 + 4, none⟩ = some (.int .i64 x.e.cell) ∧ W.cell? ⟨b, k * 10 + 5, none⟩ = some (.int .i64 x.e.other) ∧ W.cell? ⟨b, k * 10 + 6, none⟩ = some (.int .i64 x.e.epoch) ∧ W.cell? ⟨b, k * 10 + 7, none⟩ = some (.int .i64 x.e.from_) ∧ W.cell? ⟨b, k * 10 + 8, none⟩ = some (.int .i64 x.e.until_) ∧ W.cell? ⟨b, k * 10 + 9, none⟩ = some (.int .i64 x.e.n)
theorem OwnN.lgAt {w : World} {F : Nat → Prop} {A : Option Addr} {n c k : Nat} {l : List Lg} {x : Lg} (h : OwnN w F TLg 10 (.slice A n c) n (logV l)) (hk : k < n) (hx : l[k]? = some x) :
    ∃ b, A = some ⟨b, 0, none⟩ ∧ b < w.heap.size ∧ ∀ W, Fr No w W → LgCells W b k x := by
  obtain ⟨b, rfl, hb, -, hc⟩ := h.head (by omega)
  refine ⟨b, rfl, hb, fun W hf => ?_⟩
  have hl : l.length * 10 = n * 10 := by have := h.1.1; rw [logV_len] at this; exact this
  have e := fun j (hj : j < 10) => ((hf.cell (p := ⟨b, k * 10 + j, none⟩) hb (fun h => h)).trans (by rw [hc _ (by rw [logV_len]; omega), logV_get l k j x hx hj]) : W.cell? ⟨b, k * 10 + j, none⟩ = x.cells[j]?)
  exact ⟨e 0 (by omega), e 1 (by omega), e 2 (by omega), e 3 (by omega), e 4 (by omega), e 5 (by omega), e 6 (by omega), e 7 (by omega), e 8 (by omega), e 9 (by omega)⟩

theorem atJ_some {l : List Lg} {k : Nat} {x : Lg} (h : l[k]? = some x) : atJ l (k : Int) = (x, true) := by unfold atJ; rw [if_pos (by omega), Int.toNat_natCast, h]

set_option maxRecDepth 100000 in
set_option maxHeartbeats 4000000 in
theorem JournalKeeps_walk (a0 : Option Addr) (len0 cap0 : Nat) (z0 : List Int) (a1 a2 : Int) (w : World) (w0 : IsRow .i64 w a0 len0 cap0 z0) (w1 : (Lit.int .i64 a1).wf = true) (w2 : (Lit.int .i64 a2).wf = true) (s0 : cap0 * 8 ≤ 140737488351232) :
    Calls Try.prog 3 #[.slice a0 len0 cap0, .int .i64 a1, .int .i64 a2] w fun e w' => e = .returned (.bool true) ∧ Below w.heap.size w w' := by
  obtain ⟨q, hq, hm, hc, hn, hr, -⟩ := w0.openI
  have hgr := grown_any a0 len0 cap0 q a1 w w.heap.size hn hq hr (Nat.le_refl _) hm
  have hq30 : (q.take 30).length ≤ 30 := by rw [List.length_take]; omega
  generalize q.take 30 = p at *
  clear w0 hq hn hr w1 w2
  have HGR := Lib.hid hgr
  clear hgr
  go_enter Try.func3, Try.ntmps3
  go_wp2_with fail
  refine HGR.out.mono ?_
  rintro e w1 ⟨j, d, F, Ao, co, ns, rfl, g1⟩
  have hle := g1.le
  obtain ⟨i, hi1, hi2, hpl⟩ := grown_crash p (by omega) (crashN (gxs p).length (gxs (p.take ns)).length a2) ns hle (by unfold crashN; omega) (by
    have : (gxs (p.take ns)).length ≤ (gxs p).length := by
      obtain ⟨_, _, _, _, _, _, h4, _⟩ := g1.jn.open_
      obtain ⟨_, _, _, _, h9, _⟩ := h4
      exact h9
    unfold crashN; omega)
  have hcr := j_crash g1.jn a2
  rw [hpl] at hcr
  have hjt := fun w9 ys m (hj : JTo w1 F j d ys m (gst (p.take i)) w9) => g1.jto (w' := w9) hj
  clear hpl
  have HCR := Lib.hid hcr
  have HJT := Lib.hid hjt
  have G1 := Lib.hid g1
  have HI1 := Lib.hid hi1
  have HI2 := Lib.hid hi2
  have HLE := Lib.hid hle
  clear hcr hjt g1 hi1 hi2 hle
  go_wp2_with fail
  refine HCR.out.mono ?_
  rintro e w2 ⟨rfl, j2⟩
  obtain ⟨F2, a2, o2, ap2, n2, f2⟩ := HJT.out _ _ _ j2
  clear j2 HCR HJT G1
  have A2 := Lib.hid a2
  have O2 := Lib.hid o2
  have AP2 := Lib.hid ap2
  have N2 := Lib.hid n2
  have F2 := Lib.hid f2
  clear a2 o2 ap2 n2 f2
  go_wp2_with fail
  refine (awake8_any _).mono ?_
  rintro e w3 ⟨rfl, f3⟩
  have A3 := Lib.hid (A2.out.frNo f3)
  have O3 := Lib.hid (O2.out.frNo f3)
  have F3 := Lib.hid (F2.out.transNo f3)
  clear f3 A2 O2 F2
  go_wp2_with fail
  refine (j_term A3.out).mono ?_
  rintro e w4 ⟨rfl, rfl⟩
  go_wp2_with fail
  refine (j_vote A3.out).mono ?_
  rintro e w4 ⟨rfl, rfl⟩
  have hli : (gst (p.take i)).log.length = i := by show (gl (p.take i)).length = i; rw [gl_len, List.length_take]; have := HI2.out; omega
  have b1 : decide (i < ns) = false := by have := HI1.out; simp; omega
  have b2 : decide (p.length < i) = false := by have := HI2.out; simp; omega
  have HLI := Lib.hid hli
  clear hli
  go_wp2_with fail
  refine (j_len A3.out).mono ?_
  rintro e w4 ⟨rfl, rfl⟩
  rw [HLI.out]
  go_wp2_with fail
  refine (j_len A3.out).mono ?_
  rintro e w4 ⟨rfl, rfl⟩
  rw [HLI.out]
  go_wp2_with fail
  go_loopw [10] (fun o wr => ∃ k : Nat, k ≤ i ∧ o = .int .i64 k ∧ Fr No w3 wr) (fun o _ => i - (intOf o).toNat)
  case atStart => exact ⟨0, Nat.zero_le _, rfl, Fr.refl _ _⟩
  case round =>
    obtain ⟨k, hk, rfl, f5⟩ := hrel
    have A5 := Lib.hid (A3.out.frNo f5)
    have O5 := Lib.hid (O3.out.frNo f5)
    have F5 := Lib.hid (F3.out.transNo f5)
    have HF5 := Lib.hid f5
    clear f5
    go_wp2_with fail
    refine (j_len A5.out).mono ?_
    rintro e w4 ⟨rfl, rfl⟩
    rw [HLI.out]
    by_cases hki : k < i
    · have b3 : decide (k < i) = true := by simp; omega
      have hkp : k < p.length := by have := HI2.out; omega
      obtain ⟨x, hx⟩ : ∃ x, (gl p)[k]? = some x := ⟨_, List.getElem?_eq_getElem (by rw [gl_len]; exact hkp)⟩
      have hx2 : (gst (p.take i)).log[k]? = some x := by
        show (gl (p.take i))[k]? = some x
        rw [← hx]
        unfold gl
        rw [List.map_take, List.getElem?_take, if_pos hki]
      obtain ⟨b, rfl, hb, hcs⟩ := O5.out.lgAt hkp hx
      have hat := j_at A5.out (k : Int)
      rw [atJ_some hx2] at hat
      have hN := fun W => lg_neq x x W
      simp only [decide_true, Bool.not_true] at hN
      obtain ⟨t, ⟨kd, tick, te, ce, ot, ep, fr, un, n⟩⟩ := x
      unfold Lg.v at hat hN
      unfold LgCells at hcs
      simp only at hat hN hcs
      have hG := fun (u v : Operand) (V : World) => lg_guard .neq u v #[.int .i64 t, .int .i64 kd, .int .i64 tick, .int .i64 te, .int .i64 ce, .int .i64 ot, .int .i64 ep, .int .i64 fr, .int .i64 un, .int .i64 n] #[.int .i64 t, .int .i64 kd, .int .i64 tick, .int .i64 te, .int .i64 ce, .int .i64 ot, .int .i64 ep, .int .i64 fr, .int .i64 un, .int .i64 n] V
      clear hx hx2
      have HAT := Lib.hid hat
      have HCS := Lib.hid hcs
      clear hat hcs
      go_wp2_with fail
      refine HAT.out.mono ?_
      rintro e w6 ⟨rfl, f6⟩
      have hcs6 := HCS.out _ (f6.alloc (.cells #[.int .i64 t, .int .i64 kd, .int .i64 tick, .int .i64 te, .int .i64 ce, .int .i64 ot, .int .i64 ep, .int .i64 fr, .int .i64 un, .int .i64 n] TLg))
      have F6 := Lib.hid (HF5.out.transNo f6)
      clear f6
      obtain ⟨c0, c1, c2, c3, c4, c5, c6, c7, c8, c9⟩ := hcs6
      have hkp2 : (k : Int) < (p.length : Int) := by omega
      go_wp2_with fail
      go_quiet (fail)
      go_wp2_with fail
      go_roundw
      case rel => exact ⟨k + 1, by omega, by go_num, (F6.out.alloc _).drewN _⟩
      case measure => simp [intOf]; omega
    · have b3 : decide (k < i) = false := by simp; omega
      go_wp2_with fail
      go_ret
      exact ⟨rfl, (F5.out).belowNo⟩
end Go.Proofs.Ytoiiblopnchljaa
