/-
  Several texts in one: RepR, RepS, RepX.
-/
import Derived.Test.YtokblidfekbeeaaZ21
/- The program's replica: the answer to an append message is taken. -/
namespace Go.Proofs.Ytokblidfekbeeaa
open Go.ChangeShapes Go.WideShapes Go.ChangeAt Go.RowKit
set_option linter.unusedVariables false

section
variable {w w' : World} {F G : Nat → Prop} {p : Nat} {r : Rs} {s : Js} {n : Nat}
set_option maxRecDepth 100000 in
set_option maxHeartbeats 8000000 in
theorem p_handleStored (h : RAt w F p r n) (m : Ms) (v : Value) (hm : Proper r m) : Calls Try.prog 59 #[.pointer (some ⟨p, 0, none⟩), m.v v] w (CallTo w F p (r.onStored m) n) := by
  have hok := h.ok
  have hok2 := hok.onStored (m := m)
  have hf0m := hm.f0
  have hf1m := hm.f1
  have hi0m := hm.i0
  have hi1m := hm.i1
  have h5n := hok.five
  have hfew := hok.log.few
  have hT := fun W (hf : Fr No w W) => p_term (h.frNo hf).rj
  have hL := fun W (hf : Fr No w W) => p_len (h.frNo hf).rj
  have hstill := fun W (hf : Fr No w W) => h.still hf
  have hno : (r.role ≠ 3 ∨ m.term ≠ r.js.term) → r.onStored m = (r, []) := fun hh => by unfold Rs.onStored; rw [if_pos hh]
  obtain ⟨W0, hW0⟩ : ∃ W0, W0 = w.alloc (.cells (m.cells v).toArray TMs) := ⟨_, rfl⟩
  have hf0 : Fr No w W0 := by rw [hW0]; exact fr_alloc _ _
  obtain ⟨g, hg⟩ : ∃ g, g = w.heap.size := ⟨_, rfl⟩
  have hb : Blk W0 g TMs (m.cells v).toArray := by rw [hW0, hg]; exact Blk.new _ _ _
  have hP : ∀ W, Fr No w W → W.cell? ⟨p, 3, none⟩ = some (.int .i64 r.role) := fun W hW => (let ⟨_, _, _, _, _, h1, _⟩ := h.frNo hW; h1.cell 3)
  have hC := fun W (hf : Fr No W0 W) => ms_cells (m := m) (hb.fr hf (fun h => h))
  have h0 := h.frNo hf0
  have hn1 : ¬ (r.role ≠ 3 ∨ m.term ≠ r.js.term) → m.ok = false → r.onStored m = ({ r with next := setAt r.next m.from_.toNat (min (r.next m.from_.toNat - 1) m.index.toNat) }, [({ r with next := setAt r.next m.from_.toNat (min (r.next m.from_.toNat - 1) m.index.toNat) } : Rs).app m.from_.toNat]) := fun hh h2 => by unfold Rs.onStored; rw [if_neg hh, if_pos h2]
  have hn2 : ¬ (r.role ≠ 3 ∨ m.term ≠ r.js.term) → m.ok = true → m.index ≤ r.js.log.length → r.onStored m = (({ r with mtch := setAt r.mtch m.from_.toNat (max (r.mtch m.from_.toNat) m.index.toNat), next := setAt r.next m.from_.toNat (max (r.mtch m.from_.toNat) m.index.toNat) } : Rs).advance, []) := fun hh h2 h3 => by unfold Rs.onStored; rw [if_neg hh, if_neg (by rw [h2]; simp), if_pos h3]
  have hn3 : ¬ (r.role ≠ 3 ∨ m.term ≠ r.js.term) → m.ok = true → ¬ m.index ≤ r.js.log.length → r.onStored m = (r, []) := fun hh h2 h3 => by unfold Rs.onStored; rw [if_neg hh, if_neg (by rw [h2]; simp), if_neg h3]
  generalize hOV : r.onStored m = OV at *
  obtain ⟨kd, mf, mto, mt, ix, pv, cm, ok, es⟩ := m
  simp only [Ms.cells] at hW0 hC
  simp only at *
  obtain ⟨f, rfl⟩ : ∃ f : Nat, mf = f := ⟨mf.toNat, by omega⟩
  obtain ⟨i, rfl⟩ : ∃ i : Nat, ix = i := ⟨ix.toNat, by omega⟩
  rw [Int.toNat_natCast] at hn1 hn2
  rw [Int.toNat_natCast] at hn1 hn2
  have hf5 : f < 5 := by omega
  have hfb0 : (0 : Int) ≤ (f : Int) := by omega
  have hfb5 : (f : Int) < 5 := by omega
  obtain ⟨c0, c1, c2, c3, c4, c5, c6, c7, c8⟩ := hC _ (Fr.refl _ _)
  have p3 := hP _ hf0
  by_cases q1 : r.role ≠ 3 ∨ mt ≠ r.js.term
  · have hov := hno q1
    have hst := hstill
    have h3 : (r.role ≠ 3) ∨ (r.role = 3 ∧ mt ≠ r.js.term) := by
      by_cases a : r.role = 3
      · exact .inr ⟨a, by rcases q1 with q | q; exact absurd a q; exact q⟩
      · exact .inl a
    generalize r.js.term = tt at *
    clear h h0 hok hok2 hno hn1 hn2 hn3 hm hb hP q1 hOV hstill hL
    have HOV := Lib.hid hov
    have HST := Lib.hid hst
    have HT := Lib.hid hT
    have HW0 := Lib.hid hW0
    have HF0 := Lib.hid hf0
    have HG := Lib.hid hg
    have HC := Lib.hid hC
    clear hov hst hT hW0 hf0 hg hC
    rcases h3 with a | ⟨a, b⟩
    · have u1 : (r.role == 3) = false := by simpa using a
      have u2 : (r.role != 3) = true := by simpa using a
      clear a
      go_enter Try.func59, Try.ntmps59
      go_wp2_with fail
      rw [← HG.out, ← HW0.out]
      go_quiet ((go_at_call 38; exact quiet_same (HT.out _ (HF0.out.drewN _))))
      go_wp2_with fail
      go_ret
      rw [HOV.out]
      exact CallTo.mk' (HST.out _ (by repeat (first | assumption | exact Fr.refl _ _ | refine Fr.alloc ?_ _ | refine Fr.drew ?_ | refine Fr.drewN ?_ _))) (MsTo.none_ _)
    · have u1 : (r.role == 3) = true := by simpa using a
      have u2 : (r.role != 3) = false := by simpa using a
      have v1 : (mt == tt) = false := by simpa using b
      have v2 : (mt != tt) = true := by simpa using b
      clear a b
      go_enter Try.func59, Try.ntmps59
      go_wp2_with fail
      rw [← HG.out, ← HW0.out]
      go_quiet ((go_at_call 38; exact quiet_same (HT.out _ (HF0.out.drewN _))))
      go_wp2_with fail
      go_ret
      rw [HOV.out]
      exact CallTo.mk' (HST.out _ (by repeat (first | assumption | exact Fr.refl _ _ | refine Fr.alloc ?_ _ | refine Fr.drew ?_ | refine Fr.drewN ?_ _))) (MsTo.none_ _)
  have a : r.role = 3 := by
    apply Classical.byContradiction
    intro hh; exact q1 (.inl hh)
  have b : mt = r.js.term := by
    apply Classical.byContradiction
    intro hh; exact q1 (.inr hh)
  replace hn1 := hn1 q1
  replace hn2 := hn2 q1
  replace hn3 := hn3 q1
  have hnx := hok.nxt a f
  have hmx := hok.mts a f
  have u1 : (r.role == 3) = true := by simpa using a
  have u2 : (r.role != 3) = false := by simpa using a
  have v1 : (mt == r.js.term) = true := by simpa using b
  have v2 : (mt != r.js.term) = false := by simpa using b
  obtain ⟨j, Fj, bits, nx, mtc, h1, h2, h3, h4, h5, h6, h7, -⟩ := h0
  have hsee := h7.at_ a (i := f) (by omega)
  have p6 : W0.cell? ⟨p, 6 + f, none⟩ = some (.int .i64 (r.next f : Int)) := by rw [← hsee.1]; exact (rep_next h1 hf5).1
  have p11 : W0.cell? ⟨p, 11 + f, none⟩ = some (.int .i64 (r.mtch f : Int)) := by rw [← hsee.2]; exact (rep_next h1 hf5).2
  have pf6 := h1.frozen (6 + f)
  have pf11 := h1.frozen (11 + f)
  cases ok
  · replace hn1 := hn1 rfl
    rw [hn1] at hok2
    have hr1 : ∀ (k : Nat) (x : Int), x = ((min (r.next f - 1) i : Nat) : Int) → RTo W0 F p { r with next := setAt r.next f (min (r.next f - 1) i) } n ((W0.drewN k).setCell ⟨p, 6 + f, none⟩ (.int .i64 x)) := fun k x hx => RAt.cells (r := r) (r' := { r with next := setAt r.next f (min (r.next f - 1) i) }) h2 h3 h4 h5 h6 (bits' := bits) (nx' := setI nx f x) (mt' := mtc) (((Fr.refl (fun i => i = p) W0).drewN _).setCell (p := ⟨p, 6 + f, none⟩) (.inl rfl) _) (rep_set6 (h1.drewNA _) hf5 x) rfl ⟨h7.1, fun hh k hk => by
      have hs2 := h7.at_ a hk
      simp only [setI, setAt]
      refine ⟨?_, hs2.2⟩
      split
      · exact hx
      · exact hs2.1⟩ hok2
    have hxv : (if 0 < (if (i : Int) < (r.next f : Int) - 1 then (i : Int) else (r.next f : Int) - 1) then (if (i : Int) < (r.next f : Int) - 1 then (i : Int) else (r.next f : Int) - 1) else 0) = ((min (r.next f - 1) i : Nat) : Int) := by split <;> split <;> omega
    have happ := fun W (hr : RTo W0 F p { r with next := setAt r.next f (min (r.next f - 1) i) } n W) => (let ⟨G, q, _, _⟩ := hr; p_appending q a f (show f < r.n by omega) : Calls Try.prog 69 #[.pointer (some ⟨p, 0, none⟩), .int .i64 (f : Int)] W (AppTo W (({ r with next := setAt r.next f (min (r.next f - 1) i) } : Rs).app f)))
    generalize ({ r with next := setAt r.next f (min (r.next f - 1) i) } : Rs).app f = am at *
    have hgF : ¬ F g := fun hh => by have := h.lt g hh; omega
    have hgc : ∀ W, RTo W0 F p { r with next := setAt r.next f (min (r.next f - 1) i) } n W → W.cell? ⟨g, 1, none⟩ = some (.int .i64 (f : Int)) := fun W hr => (let ⟨G, _, _, q⟩ := hr; (hb.fr q hgF).cell 1)
    clear h h1 h2 h3 h4 h5 h6 h7 hok hok2 hno hn2 hn3 hm hb hP q1 hOV hstill hL hsee a b
    have HXV := Lib.hid hxv
    have HN1 := Lib.hid hn1
    have HR1 := Lib.hid hr1
    have HAPP := Lib.hid happ
    have HT := Lib.hid hT
    have HW0 := Lib.hid hW0
    have HF0 := Lib.hid hf0
    have HG := Lib.hid hg
    have HC := Lib.hid hC
    have HGC := Lib.hid hgc
    clear hxv hn1 hr1 happ hT hW0 hf0 hg hC hgc
    go_enter Try.func59, Try.ntmps59
    go_wp2_with fail
    rw [← HG.out, ← HW0.out]
    go_quiet ((go_at_call 38; exact quiet_same (HT.out _ (HF0.out.drewN _))))
    go_wp2_with fail
    go_region
    all_goals
      rw [HXV.out]
      generalize (if (i : Int) < (r.next f : Int) - 1 then (i : Int) else (r.next f : Int) - 1) = mn
      have hr9 := HR1.out (nq + 1) _ rfl
      generalize (W0.drewN (nq + 1)).setCell ⟨p, 6 + f, none⟩ (.int .i64 ((min (r.next f - 1) i : Nat) : Int)) = W1 at *
      have c1 := HGC.out _ hr9
      have ha9 := HAPP.out _ hr9
      have R9 := Lib.hid (RTo.after HF0.out hr9)
      clear hr9
      have HA9 := Lib.hid ha9
      clear ha9
      go_wp2_with fail
      refine HA9.out.mono ?_
      rintro e w5 ⟨x, rfl, hx, f5⟩
      have HX := Lib.hid hx
      have F5 := Lib.hid f5
      clear hx f5
      go_wp2_with fail
      go_ret
      rw [HN1.out]
      exact CallTo.mk' R9.out ⟨_, _, rfl, MsgsAt.one (m := am) (Blk.new' _ _ _ _ rfl) (F5.out.size) ((HX.out.lt.frNo (fr_alloc _ _)).mono fun i hi => ⟨hi.1, by have := hi.2; omega⟩), F5.out.alloc _⟩
  · replace hn2 := hn2 rfl
    replace hn3 := hn3 rfl
    by_cases hil : (i : Int) ≤ (r.js.log.length : Int)
    · replace hn2 := hn2 hil
      rw [hn2] at hok2
      have hxv : (if r.mtch f < i then (i : Int) else (r.mtch f : Int)) = ((max (r.mtch f) i : Nat) : Int) := by split <;> omega
      have hokb : RsOk { r with mtch := setAt r.mtch f (max (r.mtch f) i), next := setAt r.next f (max (r.mtch f) i) } := by
        refine ⟨hok.log, hok.lo, hok.hi, hok.vlo, hok.vhi, hok.idn, hok.five, hok.role, hok.com, hok.vts, fun hh q => ?_, fun hh q => ?_⟩
        · simp only [setAt]
          have := hok.nxt a q
          split <;> omega
        · simp only [setAt]
          have := hok.mts a q
          split <;> omega
      have hr1 : ∀ (W : World) (hW : Fr No W0 W), RTo W0 F p { r with mtch := setAt r.mtch f (max (r.mtch f) i), next := setAt r.next f (max (r.mtch f) i) } n (((W.setCell ⟨p, 11 + f, none⟩ (.int .i64 ((max (r.mtch f) i : Nat) : Int))).setCell ⟨p, 6 + f, none⟩ (.int .i64 ((max (r.mtch f) i : Nat) : Int)))) := fun W hW => RTo.after hW (RAt.cells (w := W) (r := r) (r' := { r with mtch := setAt r.mtch f (max (r.mtch f) i), next := setAt r.next f (max (r.mtch f) i) }) h2 (h3.frNo hW) h4 h5 (fun i hi => Nat.lt_of_lt_of_le (h6 i hi) hW.size) (bits' := bits) (nx' := setI nx f ((max (r.mtch f) i : Nat) : Int)) (mt' := setI mtc f ((max (r.mtch f) i : Nat) : Int)) (((Fr.refl (fun i => i = p) W).setCell (p := ⟨p, 11 + f, none⟩) (.inl rfl) _).setCell (p := ⟨p, 6 + f, none⟩) (.inl rfl) _) (rep_set6 (rep_set11 (h1.fr hW (fun h => h)) hf5 _) hf5 _) rfl ⟨h7.1, fun hh k hk => by
        have hs2 := h7.at_ a hk
        simp only [setI, setAt]
        refine ⟨?_, ?_⟩
        · split
          · rfl
          · exact hs2.1
        · split
          · rfl
          · exact hs2.2⟩ hokb)
      have hPW : ∀ W, Fr No W0 W → W.cell? ⟨p, 6 + f, none⟩ = some (.int .i64 (r.next f : Int)) ∧ W.cell? ⟨p, 11 + f, none⟩ = some (.int .i64 (r.mtch f : Int)) ∧ W.frozen? ⟨p, 6 + f, none⟩ = false ∧ W.frozen? ⟨p, 11 + f, none⟩ = false := fun W hW => (let q := h1.fr hW (fun h => h); ⟨by rw [← hsee.1]; exact (rep_next q hf5).1, by rw [← hsee.2]; exact (rep_next q hf5).2, q.frozen _, q.frozen _⟩)
      have hadv := fun W (hr : RTo W0 F p { r with mtch := setAt r.mtch f (max (r.mtch f) i), next := setAt r.next f (max (r.mtch f) i) } n W) => (let ⟨G, q, q2, q3⟩ := hr; (p_advance q a).mono fun e w' ⟨e1, e2⟩ => ⟨e1, RTo.then q3 q2 e2⟩ : Calls Try.prog 68 #[.pointer (some ⟨p, 0, none⟩)] W fun e w' => e = .returned (.tuple #[]) ∧ RTo W0 F p ({ r with mtch := setAt r.mtch f (max (r.mtch f) i), next := setAt r.next f (max (r.mtch f) i) } : Rs).advance n w')
      have hgF : ¬ F g := fun hh => by have := h.lt g hh; omega
      have hd1 : decide ((i : Int) ≤ (r.js.log.length : Int)) = true := by simpa using hil
      have hgp : g ≠ p := fun hh => hgF (hh ▸ h2)
      have hW3 : ∀ W, Fr No W0 W → ((W.setCell ⟨p, 11 + f, none⟩ (.int .i64 ((max (r.mtch f) i : Nat) : Int))).drew.cell? ⟨g, 1, none⟩ = some (.int .i64 (f : Int))) ∧ ((W.setCell ⟨p, 11 + f, none⟩ (.int .i64 ((max (r.mtch f) i : Nat) : Int))).drew.cell? ⟨p, 6 + f, none⟩ = some (.int .i64 (nx f))) ∧ ((W.setCell ⟨p, 11 + f, none⟩ (.int .i64 ((max (r.mtch f) i : Nat) : Int))).drew.cell? ⟨p, 11 + f, none⟩ = some (.int .i64 ((max (r.mtch f) i : Nat) : Int))) ∧ ((W.setCell ⟨p, 11 + f, none⟩ (.int .i64 ((max (r.mtch f) i : Nat) : Int))).drew.frozen? ⟨p, 6 + f, none⟩ = false) := fun W hW => (let q := rep_set11 (h1.fr hW (fun h => h)) hf5 ((max (r.mtch f) i : Nat) : Int); ⟨((hb.fr hW (fun h => h)).setFar hgp _).drewA.cell 1, (rep_next q.drewA hf5).1, by rw [(rep_next q.drewA hf5).2]; simp [setI], q.drewA.frozen _⟩)
      clear h h1 h2 h3 h4 h5 h6 h7 hok hok2 hno hn1 hn3 hm hb hP q1 hOV hstill hsee a b hokb hgp
      have HW3 := Lib.hid hW3
      have HN2 := Lib.hid hn2
      have HR1 := Lib.hid hr1
      have HPW := Lib.hid hPW
      have HADV := Lib.hid hadv
      have HT := Lib.hid hT
      have HL := Lib.hid hL
      have HW0 := Lib.hid hW0
      have HF0 := Lib.hid hf0
      have HG := Lib.hid hg
      have HC := Lib.hid hC
      have HXV := Lib.hid hxv
      clear hW3 hn2 hr1 hPW hadv hT hL hW0 hf0 hg hC hxv
      go_enter Try.func59, Try.ntmps59
      go_wp2_with fail
      rw [← HG.out, ← HW0.out]
      go_quiet ((go_at_call 38; exact quiet_same (HT.out _ (HF0.out.drewN _))))
      go_wp2_with fail
      have K1 := Lib.hid ((Fr.refl No W0).drewN nq)
      generalize W0.drewN nq = W1 at *
      clear p6 p11 pf6 pf11 c0 c1 c2 c3 c4 c5 c6 c7 c8
      obtain ⟨c0, c1, c2, c3, c4, c5, c6, c7, c8⟩ := HC.out _ K1.out
      go_quiet ((go_at_call 64; exact quiet_same (HL.out _ ((HF0.out.transNo K1.out).drewN _))))
      go_wp2_with fail
      replace K1 := Lib.hid (K1.out.drewN nq)
      generalize W1.drewN nq = W2 at *
      clear c0 c1 c2 c3 c4 c5 c6 c7 c8
      obtain ⟨c0, c1, c2, c3, c4, c5, c6, c7, c8⟩ := HC.out _ K1.out
      obtain ⟨p6, p11, pf6, pf11⟩ := HPW.out _ K1.out
      go_region
      all_goals
        rw [HXV.out]
        clear c0 c1 c2 c3 c4 c5 c6 c7 c8 p6 p11 pf6 pf11
        obtain ⟨c1, p6, p11, pf6⟩ := HW3.out _ K1.out
        obtain ⟨W3, hW3e⟩ : ∃ W3, W3 = (W2.setCell ⟨p, 11 + f, none⟩ (.int .i64 ((max (r.mtch f) i : Nat) : Int))).drew := ⟨_, rfl⟩
        have HW3E := Lib.hid hW3e
        rw [← hW3e] at c1 p6 p11 pf6 ⊢
        clear hW3e
        go_wp2_with fail
        go_region
        all_goals
          have hr9 : RTo W0 F p { r with mtch := setAt r.mtch f (max (r.mtch f) i), next := setAt r.next f (max (r.mtch f) i) } n (W3.setCell ⟨p, 6 + f, none⟩ (.int .i64 ((max (r.mtch f) i : Nat) : Int))).drew := by
            rw [HW3E.out]
            exact (HR1.out W2 K1.out).quiet (((Fr.refl No _).drew).drew)
          have ha9 := HADV.out _ hr9
          clear hr9
          generalize (W3.setCell ⟨p, 6 + f, none⟩ (.int .i64 ((max (r.mtch f) i : Nat) : Int))).drew = W4 at *
          have HA9 := Lib.hid ha9
          clear ha9
          go_wp2_with fail
          refine HA9.out.mono ?_
          rintro e w5 ⟨rfl, t5⟩
          have R9 := Lib.hid (RTo.after HF0.out t5)
          clear t5
          go_wp2_with fail
          go_ret
          rw [HN2.out]
          exact CallTo.mk' R9.out (MsTo.none_ _)
    · replace hn3 := hn3 hil
      have hd1 : decide ((i : Int) ≤ (r.js.log.length : Int)) = false := by simpa using hil
      clear h h1 h2 h3 h4 h5 h6 h7 hok hok2 hno hn1 hn2 hm hb hP q1 hOV hsee a b
      have HN3 := Lib.hid hn3
      have HSTILL := Lib.hid hstill
      have HT := Lib.hid hT
      have HL := Lib.hid hL
      have HW0 := Lib.hid hW0
      have HF0 := Lib.hid hf0
      have HG := Lib.hid hg
      have HC := Lib.hid hC
      clear hn3 hstill hT hL hW0 hf0 hg hC
      go_enter Try.func59, Try.ntmps59
      go_wp2_with fail
      rw [← HG.out, ← HW0.out]
      go_quiet ((go_at_call 38; exact quiet_same (HT.out _ (HF0.out.drewN _))))
      go_wp2_with fail
      have K1 := Lib.hid ((Fr.refl No W0).drewN nq)
      generalize W0.drewN nq = W1 at *
      clear p6 p11 pf6 pf11 c0 c1 c2 c3 c4 c5 c6 c7 c8
      obtain ⟨c0, c1, c2, c3, c4, c5, c6, c7, c8⟩ := HC.out _ K1.out
      go_quiet ((go_at_call 64; exact quiet_same (HL.out _ ((HF0.out.transNo K1.out).drewN _))))
      go_wp2_with fail
      go_ret
      rw [HN3.out]
      exact CallTo.mk' (HSTILL.out _ ((HF0.out.transNo K1.out).drewN _)) (MsTo.none_ _)
end
end Go.Proofs.Ytokblidfekbeeaa
/- The program's replica: the log is cut, and entries are appended. -/
namespace Go.Proofs.Ytokblidfekbeeaa
open Go.ChangeShapes Go.WideShapes Go.ChangeAt Go.RowKit
set_option linter.unusedVariables false

theorem JGTo.weak {y : Bool} {w w' : World} {F : Nat → Prop} {j n : Nat} {s : Js} (h : JGTo y w F j s n w') : JGTo false w F j s n w' := by
  obtain ⟨F', h1, h2, h3⟩ := h
  exact ⟨F', h1.weak, h2, h3⟩
theorem JGTo.more {y : Bool} {w w' : World} {F : Nat → Prop} {j n m : Nat} {s : Js} (h : JGTo y w F j s n w') (hn : n ≤ m) : JGTo y w F j s m w' := by
  obtain ⟨F', h1, h2, h3⟩ := h
  exact ⟨F', h1.more hn, h2, h3⟩
theorem JGTo.after {y : Bool} {w w1 w' : World} {F : Nat → Prop} {j n : Nat} {s : Js} (hf : Fr No w w1) (h : JGTo y w1 F j s n w') : JGTo y w F j s n w' := by
  obtain ⟨F', h1, h2, h3⟩ := h
  exact ⟨F', h1, fun i hi => (h2 i hi).imp id (Nat.le_trans hf.size), (hf.mono (G := F) fun _ hi => hi.elim).trans h3 fun i hi => .inl hi⟩

section
variable {w w' : World} {F G : Nat → Prop} {p : Nat} {r : Rs} {s : Js} {n : Nat}
set_option maxRecDepth 100000 in
set_option maxHeartbeats 8000000 in
theorem p_replace (h : RAt w F p r n) (pp : Nat) (hpp : pp ≤ r.js.log.length) (A : Option Addr) (c : Nat) (es : List Lg) (hE : Ent w G (.slice A es.length c) es) (hGF : ∀ i, G i → ¬ F i) (hes : ∀ x ∈ es, x.e.ok) (hlen : es.length ≤ 4096) (hr : RsOk { r with js := replaceS r.js pp es }) (hsz : n + 600000 ≤ 140737488355328) :
    Calls Try.prog 81 #[.pointer (some ⟨p, 0, none⟩), .int .i64 (pp : Int), .slice A es.length c] w fun e w' => e = .returned (.tuple #[]) ∧ RTo w F p { r with js := replaceS r.js pp es } (n + 600000) w' := by
  have hok := h.ok
  have hfew := hok.log.few
  have hM := hE.rd.2.2.2.1
  unfold maxLen at hM
  have hL := p_len h.rj
  obtain ⟨j, Fj, bits, nx, mt, h1, h2, h3, h4, h5, h6, h7, -⟩ := h
  have hpl := h1.lt
  have p0 : w.cell? ⟨p, 0, none⟩ = some (.pointer (some ⟨j, 0, none⟩)) := h1.cell 0
  have hP : ∀ W, Fr Fj w W → W.cell? ⟨p, 0, none⟩ = some (.pointer (some ⟨j, 0, none⟩)) := fun W hf => (hf.cell (p := ⟨p, 0, none⟩) hpl h5).trans p0
  have hfin := fun W (hj : JGTo true w Fj j (replaceS r.js pp es) (n + 600000) W) => (RAt.jrn h1 h2 h4 h5 h6 h7 hj hr : RTo w F p { r with js := replaceS r.js pp es } (n + 600000) W)
  have hat := fun i hi W (hf : Fr Fj w W) => (hE.fr hf fun k hk hh => hGF k hk (h4 k hh)).at_ (i := i) hi
  by_cases hcut : pp < r.js.log.length
  · obtain ⟨s1, hs1⟩ : ∃ s1, s1 = cutS r.js (pp : Int) := ⟨_, rfl⟩
    have hx0 : cutX r.js (pp : Int) = 0 := by unfold cutX; rw [if_neg (by omega)]
    have hs2 : s1 = ⟨r.js.term, r.js.vote, r.js.log.take pp⟩ := by rw [hs1]; unfold cutS; rw [if_pos hx0, Int.toNat_natCast]
    have hrep : replaceS r.js pp es = addAll s1 es := by unfold replaceS; rw [if_pos hcut, hs2]
    rw [hrep] at hfin ⊢
    have hc := g_Cut h3 (pp : Int) (by omega)
    rw [← hs1] at hc
    have u1 : decide (pp < r.js.log.length) = true := by simpa using hcut
    generalize hll : r.js.log.length = ll at *
    generalize cutX r.js (pp : Int) = X at *
    clear h1 h2 h3 h4 h5 h6 h7 hok hE hGF hr hs1 hs2 hpl hll hx0
    have HL := Lib.hid hL
    have HP := Lib.hid hP
    have HFIN := Lib.hid hfin
    have HAT := Lib.hid hat
    have HES := Lib.hid hes
    have HC := Lib.hid hc
    have HREP := Lib.hid hrep
    clear hL hP hfin hat hes hc hrep
    go_enter Try.func81, Try.ntmps81
    go_wp2_with fail
    refine HL.out.mono ?_
    rintro e w1 ⟨rfl, rfl⟩
    go_wp2_with fail
    refine HC.out.mono ?_
    rintro e w2 ⟨rfl, j2⟩
    have T1 := Lib.hid (show JGTo false w Fj j (addAll s1 (es.take 0)) (n + 38 + 128 * 0) w2 from j2)
    clear j2 p0
    go_wp2_with fail
    go_loopw [20] (fun i wr => ∃ k : Nat, k ≤ es.length ∧ i = .int .i64 k ∧ JGTo false w Fj j (addAll s1 (es.take k)) (n + 38 + 128 * k) wr) (fun i _ => es.length - (intOf i).toNat)
    case atStart => exact ⟨0, Nat.zero_le _, rfl, T1.out⟩
    case round =>
      obtain ⟨k, hk, rfl, G1, a1, i1, f1⟩ := hrel
      have p0r := HP.out _ f1
      by_cases hlt : k < es.length
      · have hlt2 : (k : Int) < (es.length : Int) := by omega
        obtain ⟨b, off, x, rfl, hx, hcs⟩ := HAT.out k hlt wr f1
        have hxm : x.e.ok := HES.out x (List.mem_of_getElem? hx)
        have hstep : addAll s1 (es.take (k + 1)) = addS (addAll s1 (es.take k)) x.term x.e := by
          rw [List.take_add_one, hx]
          unfold addAll
          rw [List.foldl_append]
          rfl
        obtain ⟨c0, c1, c2, c3, c4, c5, c6, c7, c8, c9⟩ := hcs _ (Fr.refl _ _)
        have hal := a1.lt
        have happ := fun W (hf : Fr No wr W) => g_Append (a1.frNo hf) x.term x.e hxm (by omega)
        rw [← hstep] at happ
        have hfin2 := fun W W' (hf : Fr No wr W) (hj : JGTo false W G1 j (addAll s1 (es.take (k + 1))) (n + 38 + 128 * k + 128) W') => (JGTo.then f1 i1 (JGTo.after hf hj) : JGTo false w Fj j (addAll s1 (es.take (k + 1))) (n + 38 + 128 * k + 128) W')
        obtain ⟨t, ⟨k0, tick, te, ce, ot, ep, fr, un, nn⟩⟩ := x
        unfold En.v at happ
        simp only at *
        obtain ⟨W1, hW1⟩ : ∃ W1, W1 = wr.alloc (.cells #[.int .i64 t, .int .i64 k0, .int .i64 tick, .int .i64 te, .int .i64 ce, .int .i64 ot, .int .i64 ep, .int .i64 fr, .int .i64 un, .int .i64 nn] TLg) := ⟨_, rfl⟩
        obtain ⟨g, hg⟩ : ∃ g, g = wr.heap.size := ⟨_, rfl⟩
        have hfa : Fr No wr W1 := by rw [hW1]; exact fr_alloc _ _
        have hb1 : Blk W1 g TLg #[.int .i64 t, .int .i64 k0, .int .i64 tick, .int .i64 te, .int .i64 ce, .int .i64 ot, .int .i64 ep, .int .i64 fr, .int .i64 un, .int .i64 nn] := by rw [hW1, hg]; exact Blk.new _ _ _
        have hgG : ¬ G1 g := fun hh => by have := hal g hh; omega
        have hS0 := fun V (hf : Fr No W1 V) => And.intro (HP.out _ (f1.trans (hfa.transNo hf) fun _ h => h.elim)) (lg_cells (x := ⟨t, ⟨k0, tick, te, ce, ot, ep, fr, un, nn⟩⟩) (hb1.fr hf (fun h => h)))
        have hB2 := fun V V' (hf : Fr No W1 V) (hj : Fr G1 V V') => lg_cells (x := ⟨t, ⟨k0, tick, te, ce, ot, ep, fr, un, nn⟩⟩) ((hb1.fr hf (fun h => h)).fr hj hgG)
        have hfw := fun V' (hj : JGTo false w Fj j (addAll s1 (es.take (k + 1))) (n + 38 + 128 * k + 128) V') => HP.out V' (let ⟨_, _, _, q⟩ := hj; q)
        simp only at hS0 hB2
        clear hx hxm hstep hcs a1 i1 f1 hal hb1 hgG
        have HAPP := Lib.hid happ
        have HFIN2 := Lib.hid hfin2
        have HW1 := Lib.hid hW1
        have HG := Lib.hid hg
        have HFA := Lib.hid hfa
        have HS0 := Lib.hid hS0
        have HB2 := Lib.hid hB2
        have HFW := Lib.hid hfw
        clear happ hfin2 hW1 hg hfa hS0 hB2 hfw
        go_wp2_with fail
        rw [← HG.out, ← HW1.out]
        go_region_held3 (fun V => V.cell? ⟨p, 0, none⟩ = some (.pointer (some ⟨j, 0, none⟩)) ∧ V.cell? ⟨g, 0, none⟩ = some (.int .i64 t) ∧ V.cell? ⟨g, 1, none⟩ = some (.int .i64 k0) ∧ V.cell? ⟨g, 2, none⟩ = some (.int .i64 tick) ∧ V.cell? ⟨g, 3, none⟩ = some (.int .i64 te) ∧ V.cell? ⟨g, 4, none⟩ = some (.int .i64 ce) ∧ V.cell? ⟨g, 5, none⟩ = some (.int .i64 ot) ∧ V.cell? ⟨g, 6, none⟩ = some (.int .i64 ep) ∧ V.cell? ⟨g, 7, none⟩ = some (.int .i64 fr) ∧ V.cell? ⟨g, 8, none⟩ = some (.int .i64 un) ∧ V.cell? ⟨g, 9, none⟩ = some (.int .i64 nn)) (first | exact ⟨p0r, e0, e1, e2, e3, e4, e5, e6, e7, e8, e9⟩ | exact HS0.out _ (by repeat (first | assumption | exact Fr.refl _ _ | refine Fr.alloc ?_ _ | refine Fr.drew ?_ | refine Fr.drewN ?_ _))) (first
          | (go_at_call 66; refine (HAPP.out _ (HFA.out.transNo (by repeat (first | assumption | exact Fr.refl _ _ | refine Fr.alloc ?_ _ | refine Fr.drew ?_ | refine Fr.drewN ?_ _)))).mono ?_; rintro e w5 ⟨rfl, j5⟩; obtain ⟨e0, e1, e2, e3, e4, e5, e6, e7, e8, e9⟩ := HB2.out _ _ (by repeat (first | assumption | exact Fr.refl _ _ | refine Fr.alloc ?_ _ | refine Fr.drew ?_ | refine Fr.drewN ?_ _)) (let ⟨_, _, _, q⟩ := j5; q); have T5 := Lib.hid (HFIN2.out _ _ (HFA.out.transNo (by repeat (first | assumption | exact Fr.refl _ _ | refine Fr.alloc ?_ _ | refine Fr.drew ?_ | refine Fr.drewN ?_ _))) j5); have p0r := HFW.out _ T5.out; clear j5))
        clear e0 e1 e2 e3 e4 e5 e6 e7 e8 e9
        go_wp2_with fail
        go_roundw
        case rel => exact ⟨k + 1, by omega, by go_num, T5.out.more (by omega)⟩
        case measure => simp [intOf]; omega
      · obtain rfl : k = es.length := by omega
        have u1 : decide (es.length < es.length) = false := by simp
        rw [List.take_length] at a1
        have hsy := g_sync a1
        have hend := fun W (hj : JGTo true wr G1 j (addAll s1 es) (n + 38 + 128 * es.length) W) => HFIN.out W ((JGTo.then f1 i1 hj).more (by omega))
        clear a1 i1 f1
        have HSY := Lib.hid hsy
        have HEND := Lib.hid hend
        clear hsy hend
        go_wp2_with fail
        refine HSY.out.mono ?_
        rintro e w6 ⟨rfl, j6⟩
        have T6 := Lib.hid (HEND.out _ j6)
        clear j6
        go_wp2_with fail
        go_end0
        exact ⟨rfl, T6.out⟩
  · have hrep : replaceS r.js pp es = addAll r.js es := by unfold replaceS; rw [if_neg hcut]
    rw [hrep] at hfin ⊢
    have T1 := Lib.hid (show JGTo false w Fj j (addAll r.js (es.take 0)) (n + 38 + 128 * 0) w from (h3.self.weak).more (by omega))
    have u1 : decide (pp < r.js.log.length) = false := by simpa using hcut
    generalize hs1 : r.js = s1 at *
    generalize hll : s1.log.length = ll at *
    clear h1 h2 h3 h4 h5 h6 h7 hok hE hGF hr hs1 hpl hll p0
    have HL := Lib.hid hL
    have HP := Lib.hid hP
    have HFIN := Lib.hid hfin
    have HAT := Lib.hid hat
    have HES := Lib.hid hes
    have HREP := Lib.hid hrep
    clear hL hP hfin hat hes hrep
    go_enter Try.func81, Try.ntmps81
    go_wp2_with fail
    refine HL.out.mono ?_
    rintro e w1 ⟨rfl, rfl⟩
    go_wp2_with fail
    go_loopw [20] (fun i wr => ∃ k : Nat, k ≤ es.length ∧ i = .int .i64 k ∧ JGTo false w Fj j (addAll s1 (es.take k)) (n + 38 + 128 * k) wr) (fun i _ => es.length - (intOf i).toNat)
    case atStart => exact ⟨0, Nat.zero_le _, rfl, T1.out⟩
    case round =>
      obtain ⟨k, hk, rfl, G1, a1, i1, f1⟩ := hrel
      have p0r := HP.out _ f1
      by_cases hlt : k < es.length
      · have hlt2 : (k : Int) < (es.length : Int) := by omega
        obtain ⟨b, off, x, rfl, hx, hcs⟩ := HAT.out k hlt wr f1
        have hxm : x.e.ok := HES.out x (List.mem_of_getElem? hx)
        have hstep : addAll s1 (es.take (k + 1)) = addS (addAll s1 (es.take k)) x.term x.e := by
          rw [List.take_add_one, hx]
          unfold addAll
          rw [List.foldl_append]
          rfl
        obtain ⟨c0, c1, c2, c3, c4, c5, c6, c7, c8, c9⟩ := hcs _ (Fr.refl _ _)
        have hal := a1.lt
        have happ := fun W (hf : Fr No wr W) => g_Append (a1.frNo hf) x.term x.e hxm (by omega)
        rw [← hstep] at happ
        have hfin2 := fun W W' (hf : Fr No wr W) (hj : JGTo false W G1 j (addAll s1 (es.take (k + 1))) (n + 38 + 128 * k + 128) W') => (JGTo.then f1 i1 (JGTo.after hf hj) : JGTo false w Fj j (addAll s1 (es.take (k + 1))) (n + 38 + 128 * k + 128) W')
        obtain ⟨t, ⟨k0, tick, te, ce, ot, ep, fr, un, nn⟩⟩ := x
        unfold En.v at happ
        simp only at *
        obtain ⟨W1, hW1⟩ : ∃ W1, W1 = wr.alloc (.cells #[.int .i64 t, .int .i64 k0, .int .i64 tick, .int .i64 te, .int .i64 ce, .int .i64 ot, .int .i64 ep, .int .i64 fr, .int .i64 un, .int .i64 nn] TLg) := ⟨_, rfl⟩
        obtain ⟨g, hg⟩ : ∃ g, g = wr.heap.size := ⟨_, rfl⟩
        have hfa : Fr No wr W1 := by rw [hW1]; exact fr_alloc _ _
        have hb1 : Blk W1 g TLg #[.int .i64 t, .int .i64 k0, .int .i64 tick, .int .i64 te, .int .i64 ce, .int .i64 ot, .int .i64 ep, .int .i64 fr, .int .i64 un, .int .i64 nn] := by rw [hW1, hg]; exact Blk.new _ _ _
        have hgG : ¬ G1 g := fun hh => by have := hal g hh; omega
        have hS0 := fun V (hf : Fr No W1 V) => And.intro (HP.out _ (f1.trans (hfa.transNo hf) fun _ h => h.elim)) (lg_cells (x := ⟨t, ⟨k0, tick, te, ce, ot, ep, fr, un, nn⟩⟩) (hb1.fr hf (fun h => h)))
        have hB2 := fun V V' (hf : Fr No W1 V) (hj : Fr G1 V V') => lg_cells (x := ⟨t, ⟨k0, tick, te, ce, ot, ep, fr, un, nn⟩⟩) ((hb1.fr hf (fun h => h)).fr hj hgG)
        have hfw := fun V' (hj : JGTo false w Fj j (addAll s1 (es.take (k + 1))) (n + 38 + 128 * k + 128) V') => HP.out V' (let ⟨_, _, _, q⟩ := hj; q)
        simp only at hS0 hB2
        clear hx hxm hstep hcs a1 i1 f1 hal hb1 hgG
        have HAPP := Lib.hid happ
        have HFIN2 := Lib.hid hfin2
        have HW1 := Lib.hid hW1
        have HG := Lib.hid hg
        have HFA := Lib.hid hfa
        have HS0 := Lib.hid hS0
        have HB2 := Lib.hid hB2
        have HFW := Lib.hid hfw
        clear happ hfin2 hW1 hg hfa hS0 hB2 hfw
        go_wp2_with fail
        rw [← HG.out, ← HW1.out]
        go_region_held3 (fun V => V.cell? ⟨p, 0, none⟩ = some (.pointer (some ⟨j, 0, none⟩)) ∧ V.cell? ⟨g, 0, none⟩ = some (.int .i64 t) ∧ V.cell? ⟨g, 1, none⟩ = some (.int .i64 k0) ∧ V.cell? ⟨g, 2, none⟩ = some (.int .i64 tick) ∧ V.cell? ⟨g, 3, none⟩ = some (.int .i64 te) ∧ V.cell? ⟨g, 4, none⟩ = some (.int .i64 ce) ∧ V.cell? ⟨g, 5, none⟩ = some (.int .i64 ot) ∧ V.cell? ⟨g, 6, none⟩ = some (.int .i64 ep) ∧ V.cell? ⟨g, 7, none⟩ = some (.int .i64 fr) ∧ V.cell? ⟨g, 8, none⟩ = some (.int .i64 un) ∧ V.cell? ⟨g, 9, none⟩ = some (.int .i64 nn)) (first | exact ⟨p0r, e0, e1, e2, e3, e4, e5, e6, e7, e8, e9⟩ | exact HS0.out _ (by repeat (first | assumption | exact Fr.refl _ _ | refine Fr.alloc ?_ _ | refine Fr.drew ?_ | refine Fr.drewN ?_ _))) (first
          | (go_at_call 66; refine (HAPP.out _ (HFA.out.transNo (by repeat (first | assumption | exact Fr.refl _ _ | refine Fr.alloc ?_ _ | refine Fr.drew ?_ | refine Fr.drewN ?_ _)))).mono ?_; rintro e w5 ⟨rfl, j5⟩; obtain ⟨e0, e1, e2, e3, e4, e5, e6, e7, e8, e9⟩ := HB2.out _ _ (by repeat (first | assumption | exact Fr.refl _ _ | refine Fr.alloc ?_ _ | refine Fr.drew ?_ | refine Fr.drewN ?_ _)) (let ⟨_, _, _, q⟩ := j5; q); have T5 := Lib.hid (HFIN2.out _ _ (HFA.out.transNo (by repeat (first | assumption | exact Fr.refl _ _ | refine Fr.alloc ?_ _ | refine Fr.drew ?_ | refine Fr.drewN ?_ _))) j5); have p0r := HFW.out _ T5.out; clear j5))
        clear e0 e1 e2 e3 e4 e5 e6 e7 e8 e9
        go_wp2_with fail
        go_roundw
        case rel => exact ⟨k + 1, by omega, by go_num, T5.out.more (by omega)⟩
        case measure => simp [intOf]; omega
      · obtain rfl : k = es.length := by omega
        have u1 : decide (es.length < es.length) = false := by simp
        rw [List.take_length] at a1
        have hsy := g_sync a1
        have hend := fun W (hj : JGTo true wr G1 j (addAll s1 es) (n + 38 + 128 * es.length) W) => HFIN.out W ((JGTo.then f1 i1 hj).more (by omega))
        clear a1 i1 f1
        have HSY := Lib.hid hsy
        have HEND := Lib.hid hend
        clear hsy hend
        go_wp2_with fail
        refine HSY.out.mono ?_
        rintro e w6 ⟨rfl, j6⟩
        have T6 := Lib.hid (HEND.out _ j6)
        clear j6
        go_wp2_with fail
        go_end0
        exact ⟨rfl, T6.out⟩
end
end Go.Proofs.Ytokblidfekbeeaa
/- The program's replica: beats, crashes. -/
namespace Go.Proofs.Ytokblidfekbeeaa
open Go.ChangeShapes Go.WideShapes Go.ChangeAt Go.RowKit
set_option linter.unusedVariables false

section
variable {w w' : World} {F : Nat → Prop} {p : Nat} {r : Rs} {s : Js} {n : Nat}
set_option maxHeartbeats 2000000 in
theorem p_beat (h : RAt w F p r n) : Calls Try.prog 46 #[.pointer (some ⟨p, 0, none⟩)] w (MsTo w r.beat) := by
  have hr : r.role ≠ 3 ∨ r.role = 3 := by omega
  have c3 : w.cell? ⟨p, 3, none⟩ = some (.int .i64 r.role) := (let ⟨_, _, _, _, _, h1, _⟩ := h; h1.cell 3)
  rcases hr with hr | hr
  · have hb : r.beat = [] := by unfold Rs.beat; rw [if_pos hr]
    have t1 : (r.role == 3) = false := by simpa using hr
    have t2 : (r.role != 3) = true := by simpa using hr
    rw [hb]
    have M := Lib.hid (MsTo.none_ w)
    clear h hb hr
    go_enter Try.func46, Try.ntmps46
    go_wp2_with fail
    go_ret
    exact M.out
  · have hb : r.beat = r.toAll := by unfold Rs.beat; rw [if_neg (by simpa using hr)]
    rw [hb]
    have ho := p_others_app h hr
    rw [hr] at c3
    unfold Rs.toAll
    generalize (others r.id r.n).map r.app = ms at *
    clear h hb hr
    have HO := Lib.hid ho
    clear ho
    go_enter Try.func46, Try.ntmps46
    go_wp2_with fail
    refine HO.out.mono ?_
    rintro e w5 m5
    have M := Lib.hid m5
    obtain ⟨A5, c5, rfl, -, -⟩ := m5
    go_wp2_with fail
    go_ret
    exact M.out
set_option maxHeartbeats 2000000 in
theorem p_crash (h : RAt w F p r n) (keep : Int) : Calls Try.prog 47 #[.pointer (some ⟨p, 0, none⟩), .int .i64 keep] w fun e w' => e = .returned (.tuple #[]) ∧ RTo w F p r.crash n w' := by
  have hok := h.ok
  obtain ⟨j, Fj, bits, nx, mt, h1, h2, h3, h4, h5, h6, h7, -⟩ := h
  have c0 : w.cell? ⟨p, 0, none⟩ = some (.pointer (some ⟨j, 0, none⟩)) := h1.cell 0
  have hfin := fun V (hj : JGTo true w Fj j r.js n V) => (RAt.jrn (r := r) (s' := r.js) h1 h2 h4 h5 h6 h7 hj hok : RTo w F p r n V)
  have hcr := g_crash h3 keep
  clear h1 h2 h3 h4 h5 h6 h7
  have HFIN := Lib.hid hfin
  have HCR := Lib.hid hcr
  clear hfin hcr
  go_enter Try.func47, Try.ntmps47
  go_wp2_with fail
  refine HCR.out.mono ?_
  rintro e w2 ⟨rfl, t2⟩
  obtain ⟨G, a2, i2, f2⟩ := HFIN.out _ t2
  clear t2 c0
  obtain ⟨j, Fj, bits, nx, mt, h1, h2, h3, h4, h5, h6, h7, -⟩ := a2
  have k3 : w2.cell? ⟨p, 3, none⟩ = some (.int .i64 r.role) := h1.cell 3
  have k4 : w2.cell? ⟨p, 4, none⟩ = some (.int .i64 (r.commit : Int)) := h1.cell 4
  have kf3 := h1.frozen 3
  have kf4 := h1.frozen 4
  have hfin2 := fun W' (hW : W' = (w2.setCell ⟨p, 3, none⟩ (.int .i64 1)).setCell ⟨p, 4, none⟩ (.int .i64 0)) => (RTo.then f2 i2 (RAt.cells (r := r) (r' := r.crash) h2 h3 h4 h5 h6 (bits' := bits) (nx' := nx) (mt' := mt) (by rw [hW]; exact ((Fr.refl (fun i => i = p) w2).setCell (p := ⟨p, 3, none⟩) (.inl rfl) _).setCell (p := ⟨p, 4, none⟩) (.inl rfl) _) (by rw [hW]; exact ((h1.set_ 3 _).set_ 4 _).conv rfl) rfl ⟨fun hh => by simp [Rs.crash] at hh, fun hh => by simp [Rs.crash] at hh⟩ hok.crash) : RTo w F p r.crash n W')
  clear h1 h2 h3 h4 h5 h6 h7 hok i2 f2
  have HFIN2 := Lib.hid hfin2
  clear hfin2
  go_wp2_with fail
  go_end0
  exact ⟨rfl, HFIN2.out _ rfl⟩
end
end Go.Proofs.Ytokblidfekbeeaa
