/-
  The contract of Crash of the journal.
-/
import Derived.Test.YtoiiblopnchljaaJrnE
namespace Go.Proofs.Ytoiiblopnchljaa
open Go.ChangeShapes Go.WideShapes Go.ChangeAt Go.RowKit
set_option linter.unusedVariables false

theorem replayJ_len {s s' : Js} {r : List UInt8} (h : replayJ s r = some s') (hl : s.log.length ≤ 4096) : s'.log.length ≤ 4096 := by
  unfold replayJ at h
  split at h
  · cases h
  · split at h
    · cases h
    · unfold replayB at h
      split at h
      · split at h
        · cases h
        · split at h
          · rename_i hc
            injection h with h
            subst h
            unfold setTermS
            rw [if_pos hc.2]
            exact hl
          · cases h
      · split at h
        · split at h
          · rename_i hc
            injection h with h
            subst h
            have := addX_bd hc.2.2
            unfold addS
            rw [if_pos hc.2.2]
            simp
            omega
          · cases h
        · split at h
          · split at h
            · rename_i hc
              injection h with h
              subst h
              unfold cutS
              rw [if_pos hc.2]
              simp
              omega
            · cases h
          · cases h

/-- Term, vote and log are forgotten. -/
theorem JAt.forget {w : World} {F : Nat → Prop} {j d : Nat} {xs : List UInt8} {k : Nat} {s : Js} (h : JAt w F j d xs k s) :
    JTo w F j d xs k jsNew (((w.setCell ⟨j, 1, none⟩ (.int .i64 0)).setCell ⟨j, 2, none⟩ (.int .i64 (-1))).setCell ⟨j, 3, none⟩ (.slice none 0 0)) := by
  obtain ⟨v, Fd, h1, h2, h3, h4, h5, h6, h7, h8⟩ := h
  obtain ⟨F', g1, g2, g3⟩ := JAt.setTV 0 (-1) h1 h2 h3 h4 h5 h6 h7 h8
  obtain ⟨v', Fd', k1, k2, k3, k4, k5, k6, k7, k8⟩ := g1
  have := JAt.setLog (l := []) (v' := .slice none 0 0) k1 k2 (OwnN.nil _ _ _ _) k4 k5 k6 (fun g hg => by cases hg) k8
  obtain ⟨F2, m1, m2, m3⟩ := this
  exact ⟨F2, m1, fun i hi => (m2 i hi).elim (fun h => g2 i h) (fun h => .inr (Nat.le_trans g3.size h)), g3.trans m3 g2⟩

/-- Two steps of a journal. -/
theorem JTo.then {w w1 w' : World} {F F1 : Nat → Prop} {j d : Nat} {ys : List UInt8} {m : Nat} {s' : Js} (hf : Fr F w w1) (hi : ∀ i, F1 i → F i ∨ w.heap.size ≤ i) (h : JTo w1 F1 j d ys m s' w') : JTo w F j d ys m s' w' := by
  obtain ⟨F2, g3, g4, g5⟩ := h
  exact ⟨F2, g3, fun i h => (g4 i h).elim (fun h => hi i h) (fun h => .inr (Nat.le_trans hf.size h)), hf.trans g5 hi⟩

theorem j_trunc {w : World} {F : Nat → Prop} {j d : Nat} {xs : List UInt8} {k : Nat} {s : Js} (h : JAt w F j d xs k s) (n : Nat) (hn : n ≤ xs.length) :
    Calls Try.prog 42 #[.pointer (some ⟨d, 0, none⟩), .int .i64 (n : Int)] w fun e w' => e = .returned (.int .i64 0) ∧ JTo w F j d (xs.take n) (min k n) s w' := by
  obtain ⟨v, Fd, h1, h2, h3, h4, h5, h6, h7, h8⟩ := h
  exact (disk_truncate_yes w Fd d xs k h4 n hn).mono fun e w' ⟨e1, e2⟩ => ⟨e1, JAt.disk h1 h2 h3 h5 h6 h7 h8 e2⟩
theorem j_dbytes {w : World} {F : Nat → Prop} {j d : Nat} {xs : List UInt8} {k : Nat} {s : Js} (h : JAt w F j d xs k s) :
    Calls Try.prog 39 #[.pointer (some ⟨d, 0, none⟩)] w fun e w' => ∃ A c, e = .returned (.slice A xs.length c) ∧ Own w' (fun i => w.heap.size ≤ i) 5 (.slice A xs.length c) (xs.map bv) ∧ Fr No w w' := by
  obtain ⟨v, Fd, h1, h2, h3, h4, h5, h6, h7, h8⟩ := h
  exact disk_bytes w Fd d xs k h4
theorem JAt.ptr {w : World} {F : Nat → Prop} {j d : Nat} {xs : List UInt8} {k : Nat} {s : Js} (h : JAt w F j d xs k s) : w.cell? ⟨j, 0, none⟩ = some (.pointer (some ⟨d, 0, none⟩)) := by
  obtain ⟨v, Fd, h1, _⟩ := h
  exact h1.cell 0

set_option maxRecDepth 100000 in
set_option maxHeartbeats 4000000 in
theorem j_crash {w : World} {F : Nat → Prop} {j d : Nat} {xs : List UInt8} {k : Nat} {s : Js} (h : JAt w F j d xs k s) (keep : Int) :
    Calls Try.prog 11 #[.pointer (some ⟨j, 0, none⟩), .int .i64 keep] w fun e w' => e = .returned (.tuple #[]) ∧ JTo w F j d ((xs.take (crashN xs.length k keep)).take (playJ (xs.take (crashN xs.length k keep))).1) (min (crashN xs.length k keep) (playJ (xs.take (crashN xs.length k keep))).1) (playJ (xs.take (crashN xs.length k keep))).2 w' := by
  obtain ⟨u0, hu0, gz0, gz1, gz2⟩ := info_parts bytes_info
  obtain ⟨A1, c1, Fd, h1, h2, h3, h4, h5, h6, h7, h8, d0, d1, d2, d3, hn⟩ := h.open_
  have hxl : xs.length ≤ 140737488355328 := by
    obtain ⟨v, g1, g2, g3, g4, g5, g6⟩ := h4
    exact g5
  have hcr := disk_crash w Fd d xs k h4 keep
  have hfin := fun V' (hd : DiskTo w Fd d (xs.take (crashN xs.length k keep)) (crashN xs.length k keep) V') => JAt.disk h1 h2 h3 h5 h6 h7 h8 hd
  have hbl : (xs.take (crashN xs.length k keep)).length ≤ xs.length := by rw [List.length_take]; omega
  revert hcr hfin hbl
  generalize xs.take (crashN xs.length k keep) = b
  generalize crashN xs.length k keep = nd
  intro hcr hfin hbl
  obtain ⟨T, hT⟩ : ∃ T, T = playJ b := ⟨_, rfl⟩
  rw [← hT]
  unfold playJ at hT
  clear h h1 h2 h3 h4 h5 h6 h7 h8 hn d1 d2 d3
  have HCR := Lib.hid hcr
  have HFIN := Lib.hid hfin
  have HT := Lib.hid hT
  clear hcr hfin hT
  go_enter Try.func11, Try.ntmps11
  go_wp2_with fail
  refine HCR.out.mono ?_
  rintro e w1 ⟨rfl, dd⟩
  obtain ⟨G1, a1, i1, f1⟩ := HFIN.out _ dd
  clear HCR HFIN dd d0
  obtain ⟨W2, hW2⟩ : ∃ W2, W2 = ((w1.setCell ⟨j, 1, none⟩ (.int .i64 0)).setCell ⟨j, 2, none⟩ (.int .i64 (-1))).setCell ⟨j, 3, none⟩ (.slice none 0 0) := ⟨_, rfl⟩
  have hfg := a1.forget
  rw [← hW2] at hfg
  obtain ⟨A2, c2, Fd2, h1, -, -, -, -, -, -, -, d0, d1, d2, d3, -⟩ := a1.open_
  have q1 := h1.frozen 1
  have q2 := h1.frozen 2
  have q3 := h1.frozen 3
  clear h1 a1
  obtain ⟨G2, a2, i2, f2⟩ := hfg
  have hthen := fun ys m s' w' (hj : JTo W2 G2 j d ys m s' w') => JTo.then f1 i1 (JTo.then f2 i2 hj)
  have hdb := j_dbytes a2
  have h2lt := a2.lt
  clear f1 i1 f2 i2
  have A2 := Lib.hid a2
  have HTHEN := Lib.hid hthen
  have HDB := Lib.hid hdb
  have H2LT := Lib.hid h2lt
  have HW2 := Lib.hid hW2
  clear a2 hthen hdb h2lt hW2
  go_wp2_with fail
  rw [← HW2.out]
  clear HW2 d0 d1 d2 d3 q1 q2 q3
  refine HDB.out.mono ?_
  rintro e w3 ⟨B3, c3, rfl, o3, f3⟩
  have hcap := o3.cap
  have hnil := o3.len.2
  have hne : ∀ g, Value.ownBlock (.slice B3 b.length c3) = some g → ¬ G2 g := fun g hg hh => by
    have x1 := o3.2 g hg
    have x2 := H2LT.out g hh
    simp only at x1
    omega
  have a3 := A2.out.frNo f3
  have F3 := Lib.hid f3
  have O3 := Lib.hid o3
  clear o3 f3 HDB A2
  have A3 := Lib.hid a3
  have HNE := Lib.hid hne
  have HNIL := Lib.hid hnil
  clear a3 hne hnil
  go_wp2_with fail
  go_loopw [5] (fun o wr => ∃ (p f : Nat) (s' : Js), o = .int .i64 p ∧ p ≤ b.length ∧ b.length < f + p ∧ T = playG f b p s' ∧ s'.log.length ≤ 4096 ∧ JTo w3 G2 j d b nd s' wr) (fun o _ => b.length - (intOf o).toNat)
  case atStart => exact ⟨0, b.length + 1, jsNew, rfl, Nat.zero_le _, by omega, HT.out, by decide, A3.out.self⟩
  case round =>
    obtain ⟨p, f, s', rfl, hp, hf, hT2, hl4, hj⟩ := hrel
    obtain ⟨G4, a4, i4, f4⟩ := hj
    have hfinal := fun W (hf : Fr No wr W) (hT3 : T = (p, s')) => j_trunc (a4.frNo hf) p hp
    have hptr := fun W (hf : Fr No wr W) => (a4.frNo hf).ptr
    have hend := fun w' ys m s9 (hj : JTo wr G4 j d ys m s9 w') => HTHEN.out ys m s9 w' (JTo.after F3.out (JTo.then f4 i4 hj))
    have hcont := fun w' s9 (hj : JTo wr G4 j d b nd s9 w') => JTo.then f4 i4 hj
    have o4 := O3.out.fr' f4 HNE.out
    have d0 := a4.ptr
    clear HT
    by_cases hlt : p < b.length
    · rcases f with _ | f
      · omega
      rw [playG, if_pos hlt] at hT2
      obtain ⟨A4, hs2, hn2, hr2⟩ := run_from (P := Try.prog) 52 5 Try.underlying52 u0 hu0 gz1 B3 b.length c3 p hp HNIL.out
      have hr3 := hr2 wr wr.heap.size (b.map bv) (by rw [List.length_map]; exact hcap.1) o4.rd
      rw [← List.map_drop] at hr3
      have hC := frtake_any A4 (b.length - p) (c3 - p) 8 (b.drop p) wr wr.heap.size hn2 (by rw [List.length_drop]) hr3 (by omega) (by omega)
      have hk := takeFr_k 8 (b.drop p)
      rw [List.length_drop] at hk
      unfold TakeTo at hC
      generalize takeFr 8 (b.drop p) = t at *
      obtain ⟨tp, tk, te⟩ := t
      simp only at hT2 hk hC
      have hb1 : decide ((p : Int) < (b.length : Int)) = true := by simp; omega
      clear hr2 hr3 hn2 f4 i4 o4
      by_cases h0 : te = 0
      · rw [if_pos h0] at hT2
        have hk1 := hk h0
        subst h0
        have hrep := fun W (hf : Fr No wr W) A5 c5 (o5 : Own W (fun i => wr.heap.size ≤ i) 5 (.slice A5 tp.length c5) (tp.map bv)) => j_replay (a4.frNo hf) hl4 A5 tp.length c5 tp W.heap.size o5.len.2 rfl (Nat.le_trans o5.cap.1 o5.cap.2) o5.cap.1 o5.rd (Nat.le_refl _)
        have hrl := fun s9 hh => replayJ_len (s := s') (r := tp) (s' := s9) hh hl4
        unfold RepTo at hrep
        generalize hRR : replayJ s' tp = R at *
        clear hRR hk hfinal hptr
        cases R with
        | none =>
          simp only [Option.isSome_none, Option.getD_none] at hT2 hrep
          clear hrl hcont a4
          have HC := Lib.hid hC
          have HREP := Lib.hid hrep
          have HEND := Lib.hid hend
          have HT2 := Lib.hid hT2
          clear hC hrep hend hT2
          go_wp2_with fail
          refine HC.out.mono ?_
          rintro e w5 ⟨A5, c5, rfl, o5, f5⟩
          have O5 := Lib.hid o5
          have F5 := Lib.hid f5
          clear o5 f5 HC
          go_wp2_with fail
          refine (HREP.out _ F5.out _ _ O5.out).mono ?_
          rintro e w6 ⟨rfl, j6⟩
          obtain ⟨G6, a6, i6, f6⟩ := j6
          have d6 := a6.ptr
          have hfin := j_trunc a6 p hp
          have hend2 := fun w' ys m s9 (hj : JTo w6 G6 j d ys m s9 w') => HEND.out w' ys m s9 (JTo.after F5.out (JTo.then f6 i6 hj))
          clear a6 i6 f6 HREP HEND
          have HFIN := Lib.hid hfin
          have HEND2 := Lib.hid hend2
          clear hfin hend2
          go_wp2_with fail
          refine HFIN.out.mono ?_
          rintro e w9 ⟨rfl, j9⟩
          have J9 := Lib.hid (HEND2.out _ _ _ _ j9)
          clear j9
          go_wp2_with fail
          go_end0
          rw [HT2.out]
          exact ⟨rfl, J9.out⟩
        | some s9 =>
          simp only [Option.isSome_some, Option.getD_some] at hT2 hrep
          have hl9 := hrl s9 rfl
          clear hrl hend a4
          have HC := Lib.hid hC
          have HREP := Lib.hid hrep
          have HCONT := Lib.hid hcont
          have HT2 := Lib.hid hT2
          clear hC hrep hcont hT2
          go_wp2_with fail
          refine HC.out.mono ?_
          rintro e w5 ⟨A5, c5, rfl, o5, f5⟩
          have O5 := Lib.hid o5
          have F5 := Lib.hid f5
          clear o5 f5 HC
          go_wp2_with fail
          refine (HREP.out _ F5.out _ _ O5.out).mono ?_
          rintro e w6 ⟨rfl, j6⟩
          have J6 := Lib.hid (HCONT.out _ _ (JTo.after F5.out j6))
          clear j6
          go_wp2_with fail
          go_roundw
          case rel => exact ⟨p + tk, f, s9, by go_num, by omega, by omega, HT2.out, hl9, J6.out⟩
          case measure => simp [intOf]; omega
      · rw [if_neg h0] at hT2
        have b1 : (te == 0) = false := by simpa using h0
        have b2 : (te != 0) = true := by simpa using h0
        clear hk hcont a4
        have HC := Lib.hid hC
        have HFINAL := Lib.hid hfinal
        have HEND := Lib.hid hend
        have HT2 := Lib.hid hT2
        have H0 := Lib.hid h0
        have HPTR := Lib.hid hptr
        clear hC hfinal hend hT2 h0 hptr
        go_wp2_with fail
        refine HC.out.mono ?_
        rintro e w5 ⟨A5, c5, rfl, o5, f5⟩
        have F5 := Lib.hid f5
        have d6 := HPTR.out _ F5.out
        clear o5 f5 HC d0
        go_wp2_with fail
        refine (HFINAL.out _ F5.out HT2.out).mono ?_
        rintro e w9 ⟨rfl, j9⟩
        have J9 := Lib.hid (HEND.out _ _ _ _ (JTo.after F5.out j9))
        clear j9
        go_wp2_with fail
        go_end0
        rw [HT2.out]
        exact ⟨rfl, J9.out⟩
    · have hTT : T = (p, s') := by
        rw [hT2]
        rcases f with _ | f
        · rfl
        · rw [playG, if_neg hlt]
      have hb1 : decide ((p : Int) < (b.length : Int)) = false := by simp; omega
      clear hT2 f4 i4 o4 hptr a4 hcont
      have HFINAL := Lib.hid hfinal
      have HEND := Lib.hid hend
      have HTT := Lib.hid hTT
      clear hfinal hend hTT
      go_wp2_with fail
      refine (HFINAL.out _ (Fr.refl _ _) HTT.out).mono ?_
      rintro e w9 ⟨rfl, j9⟩
      have J9 := Lib.hid (HEND.out _ _ _ _ j9)
      clear j9
      go_wp2_with fail
      go_end0
      rw [HTT.out]
      exact ⟨rfl, J9.out⟩
end Go.Proofs.Ytoiiblopnchljaa
