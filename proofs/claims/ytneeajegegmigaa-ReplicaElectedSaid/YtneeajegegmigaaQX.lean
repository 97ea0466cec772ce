/-
  Several texts in one: L9E.
-/
import Derived.Test.YtneeajegegmigaaQV
import Derived.Test.YtneeajegegmigaaRowI
/- The walk of ReplicaElected. -/
namespace Go.Proofs.Ytneeajegegmigaa
open Go.ChangeShapes Go.WideShapes Go.ChangeAt Go.RowKit
set_option linter.unusedVariables false

/-- The message of a voter. -/
def vm (v : Nat) : Ms := ⟨2, v, 0, 1, 0, 0, 0, true, []⟩
structure ElOk (N : Nat) (r : Rs) (s : Nat) : Prop where
  id : r.id = 0
  n : r.n = N
  term : r.js.term = 1
  small : s < 32
  bit0 : s.testBit 0 = true
  st : (r.role = 2 ∧ r.votes = s ∧ 2 * cntV s N ≤ N) ∨ (r.role = 3 ∧ N < 2 * cntV s N)
theorem or_zero_bit : ∀ s, s < 32 → s.testBit 0 = true → s ||| 2 ^ 0 = s := by decide +kernel
theorem or_small : ∀ s, s < 32 → ∀ v, v < 5 → s ||| 2 ^ v < 32 := by decide +kernel
theorem or_bit0 : ∀ s, s < 32 → ∀ v, v < 5 → s.testBit 0 = true → (s ||| 2 ^ v).testBit 0 = true := by decide +kernel
theorem cnt_mono : ∀ s, s < 32 → ∀ v, v < 5 → ∀ n, n < 6 → cntV s n ≤ cntV (s ||| 2 ^ v) n := by decide +kernel
theorem others_zero : ∀ n, n < 6 → 0 < n → (others 0 n).length = n - 1 := by decide +kernel
theorem cnt_mod : ∀ v, v < 32 → ∀ k, k < 5 → wrap64 (((cntV v k : Nat) : Int) + (((v : Nat) : Int) / 2 ^ k).tmod 2) = ((cntV v (k + 1) : Nat) : Int) := by decide +kernel
theorem ElOk.step {N : Nat} {r : Rs} {s v : Nat} (h : ElOk N r s) (h3 : 3 ≤ N) (h5 : N ≤ 5) (hv : v < N) :
    ElOk N (r.handle (vm v)).1 (s ||| 2 ^ v) ∧ ((r.handle (vm v)).1.role = 3 ↔ N < 2 * cntV (s ||| 2 ^ v) N) ∧ (r.handle (vm v)).2.length = (if r.role ≠ 3 ∧ N < 2 * cntV (s ||| 2 ^ v) N then N - 1 else 0) ∧ (r.role = 3 → N < 2 * cntV (s ||| 2 ^ v) N) := by
  have hs := h.small
  have hmono := cnt_mono s hs v (by omega) N (by omega)
  have hsm := or_small s hs v (by omega)
  have hb0 := or_bit0 s hs v (by omega) h.bit0
  have hid := h.id
  have hn := h.n
  have ht := h.term
  by_cases hv0 : v = 0
  · subst hv0
    have he := or_zero_bit s hs h.bit0
    have hp : r.proper (vm 0) = false := by
      cases hq : r.proper (vm 0)
      · rfl
      · have := (Rs.proper_iff.1 hq).ne
        simp [vm] at this
        omega
    have hh : r.handle (vm 0) = (r, []) := by unfold Rs.handle; rw [if_pos hp]
    rw [hh, he]
    refine ⟨h, ?_, ?_, ?_⟩
    · rcases h.st with ⟨a, -, b⟩ | ⟨a, b⟩
      · exact ⟨fun hq => by simp only at hq; omega, fun hq => by omega⟩
      · exact ⟨fun _ => b, fun _ => a⟩
    · rcases h.st with ⟨a, -, b⟩ | ⟨a, b⟩
      · rw [if_neg (by omega)]; rfl
      · rw [if_neg (by omega)]; rfl
    · rcases h.st with ⟨a, -, b⟩ | ⟨a, b⟩
      · omega
      · exact fun _ => b
  · have hp : Proper r (vm v) := ⟨by simp only [vm]; omega, by simp only [vm]; omega, by simp only [vm]; omega, by simp only [vm]; omega, by simp [vm], by simp [vm], by simp [vm], by simp [vm], by simp [vm], by simp [vm], by simp [vm], by simp [vm], .inr (.inl rfl), fun hq => by simp [vm] at hq⟩
    have hme : r.meets (vm v).term = r := by unfold Rs.meets; rw [if_neg (by simp only [vm]; omega)]
    have hta : r.takes (vm v) = r.onVoted (vm v) := by unfold Rs.takes; rw [if_neg (by simp [vm]), if_pos (by simp [vm])]
    rw [handle_proper hp, hme, hta]
    unfold Rs.onVoted
    have hfv : (vm v).from_.toNat = v := by simp [vm]
    rw [hfv]
    rcases h.st with ⟨a, a2, b⟩ | ⟨a, b⟩
    · rw [if_neg (by simp [vm]; omega), a2, hn]
      split
      · rename_i hc
        refine ⟨⟨hid, rfl, ht, hsm, hb0, .inl ⟨a, rfl, hc⟩⟩, ⟨fun hq => by simp only at hq; omega, fun hq => by omega⟩, ?_, fun hq => by omega⟩
        rw [if_neg (by omega)]; rfl
      · rename_i hc
        refine ⟨⟨hid, rfl, ht, hsm, hb0, .inr ⟨rfl, by omega⟩⟩, ⟨fun _ => by omega, fun _ => rfl⟩, ?_, fun hq => by omega⟩
        rw [if_pos ⟨by omega, by omega⟩]
        simp only [Rs.toAll, Rs.lead, List.length_map, hid]
        exact others_zero N (by omega) (by omega)
    · rw [if_pos (.inl (by omega))]
      refine ⟨⟨hid, hn, ht, hsm, hb0, .inr ⟨a, by omega⟩⟩, ⟨fun _ => by omega, fun _ => a⟩, ?_, fun _ => by omega⟩
      rw [if_neg (by omega)]; rfl
/-- The replica in memory, with the votes so far. -/
def ElAt (w0 : World) (p N k s : Nat) (W : World) : Prop := ∃ r F, ElOk N r s ∧ RAt W F p r (48 + 700000 * k) ∧ (∀ i, F i → w0.heap.size ≤ i) ∧ Fr No w0 W
theorem elect_first (N : Nat) (h3 : 3 ≤ N) (h5 : N ≤ 5) : ElOk N (repNew 0 N).campaign.1 1 := by
  unfold Rs.campaign
  rw [if_neg (by simp only [repNew]; decide), if_neg (by simp only [repNew]; omega)]
  refine ⟨rfl, rfl, rfl, by omega, by decide, .inl ⟨rfl, rfl, ?_⟩⟩
  rcases (show N = 3 ∨ N = 4 ∨ N = 5 by omega) with rfl | rfl | rfl <;> decide

set_option maxRecDepth 100000 in
set_option maxHeartbeats 8000000 in
theorem ReplicaElected_walk (a0 : Int) (a1 : Option Addr) (len1 cap1 : Nat) (z1 : List Int) (w : World) (w0 : (Lit.int .i64 a0).wf = true) (w1 : IsRow .i64 w a1 len1 cap1 z1) (s1 : cap1 * 8 ≤ 140737488351232) :
    Calls Try.prog 4 #[.int .i64 a0, .slice a1 len1 cap1] w fun e w' => e = .returned (.bool true) ∧ Below w.heap.size w w' := by
  obtain ⟨q, hq, hm, hc, hn, hr, -⟩ := w1.openI
  unfold maxLen at hm
  have hmod := fun W => mod_any a0 2 W (by decide) (by decide)
  have hb := Int.emod_nonneg a0 (show (2 : Int) ≠ 0 by decide)
  have hb2 := Int.emod_lt_of_pos a0 (show (0 : Int) < 2 by decide)
  have hN : ∃ N : Nat, 2 * (a0 % 2) + 3 = N ∧ 3 ≤ N ∧ N ≤ 5 ∧ N % 2 = 1 := ⟨(2 * (a0 % 2) + 3).toNat, by omega, by omega, by omega, by omega⟩
  obtain ⟨N, hN, h3, h5, hodd⟩ := hN
  have hnew := fun W => p_new 0 N W (by omega) h5 hodd
  have haw := fun W => awake9_any W
  have hfirst := elect_first N h3 h5
  generalize a0 % 2 = x at *
  clear w0 w1
  change ∀ (W : World), Calls Try.prog 6 #[.int .i64 0, .int .i64 (N : Int)] W _ at hnew
  have HMOD := Lib.hid hmod
  have HNEW := Lib.hid hnew
  have HAW := Lib.hid haw
  have HFIRST := Lib.hid hfirst
  have HR := Lib.hid hr
  have HN := Lib.hid hn
  have HQ := Lib.hid hq
  have HN := Lib.hid hN
  have HODD := Lib.hid hodd
  clear hmod hnew haw hfirst hr hn hq hN hodd
  go_enter Try.func4, Try.ntmps4
  go_wp2_with fail
  refine (HMOD.out _).mono ?_
  rintro e w2 ⟨rfl, rfl⟩
  go_wp2_with fail
  rw [HN.out]
  refine (HNEW.out _).mono ?_
  rintro e w2 ⟨p, F, rfl, a2, n2, f2⟩
  have A2 := Lib.hid a2
  have N2 := Lib.hid n2
  have F2 := Lib.hid f2
  clear a2 n2 f2
  go_wp2_with fail
  refine (HAW.out _).mono ?_
  rintro e w3 ⟨rfl, f3⟩
  have a3 := A2.out.frNo f3
  have F3 := Lib.hid (F2.out.transNo f3)
  clear A2 F2 f3
  have A3 := Lib.hid a3
  clear a3
  by_cases hl : 20 < len1
  · have d1 : decide (20 < len1) = true := by simpa using hl
    have d2 : decide ((20 : Int) < (len1 : Int)) = true := by simp; omega
    go_wp2_with fail
    refine (HAW.out _).mono ?_
    rintro e w4 ⟨rfl, f4⟩
    have F4 := Lib.hid f4
    clear f4
    go_wp2_with fail
    go_ret
    exact ⟨ret_bool rfl, (F3.out.transNo F4.out).belowNo⟩
  · have d1 : decide (20 < len1) = false := by simpa using hl
    have d2 : decide ((20 : Int) < (len1 : Int)) = false := by simp; omega
    go_wp2_with fail
    refine (p_campaign A3.out (by omega)).mono ?_
    rintro e w4 q4
    obtain ⟨U4, c4, H4, G4, rfl, m4, a4, n4, g4, k4, f4, -, -⟩ := q4.own F3.out N2.out
    have T4 := Lib.hid (show ElAt w p N 0 1 w4 from ⟨_, H4, HFIRST.out, a4, n4, f4⟩)
    clear m4 a4 n4 g4 k4 f4 A3 F3 N2
    go_wp2_with fail
    go_loopw [7, 8] (fun st i wr => ∃ (k s : Nat), k ≤ len1 ∧ i = .int .i64 k ∧ st = .int .i64 s ∧ ElAt w p N k s wr) (fun _ i _ => len1 - (intOf i).toNat)
    case atStart => exact ⟨0, 1, Nat.zero_le _, rfl, rfl, T4.out⟩
    case round =>
      obtain ⟨k, s, hk, rfl, rfl, r, F, hel, ha, hnw, hf⟩ := hrel
      by_cases hlt : k < len1
      · have b1 : decide (k < len1) = true := by simpa using hlt
        have b2 : decide ((k : Int) < (len1 : Int)) = true := by simp; omega
        have hlt2 : (k : Int) < (len1 : Int) := by omega
        have hkl : k < q.length := by rw [HQ.out]; exact hlt
        obtain ⟨b, off, rfl, hbB, hc0⟩ := HR.out.at_ (by rw [List.length_map, HQ.out]; omega)
        have hcell := ((hf.cell (p := ⟨b, off + k, none⟩) hbB (fun h => h)).trans (by rw [hc0 k (by rw [List.length_map]; exact hkl), List.getElem_map]) : wr.cell? ⟨b, off + k, none⟩ = some (.int .i64 q[k]))
        generalize q[k] = y at *
        have hv0 := Int.emod_nonneg y (show (N : Int) ≠ 0 by omega)
        have hv1 := Int.emod_lt_of_pos y (show (0 : Int) < (N : Int) by omega)
        have hmd := fun W => mod_any y (N : Int) W (by omega) (by omega)
        obtain ⟨v, hv⟩ : ∃ v : Nat, y % (N : Int) = v := ⟨(y % (N : Int)).toNat, by omega⟩
        rw [hv] at hmd hv0 hv1
        have hvN : v < N := by omega
        obtain ⟨st1, st2, st3, st4⟩ := hel.step h3 h5 hvN
        have hrl := p_role ha
        have hsm := hel.small
        have horb := or_bits s hsm v (by omega)
        have hsz := or_small s hsm v (by omega)
        have hha := p_handle ha (vm v) none 0 (G := No) (Ent.nil _ _) (fun _ hi => hi.elim) (fun x hx => by cases hx) (by simp [vm]) (by omega)
        generalize hS : s ||| 2 ^ v = s2 at *
        have hcm := fun j hj => cnt_mod s2 hsz j hj
        have hcle := cntV_le s2
        have hend := fun (e : Ending) (W : World) (hcall : CallTo wr F p (r.handle (vm v)) (48 + 700000 * k + 700000) e W) => hcall.own hf hnw
        have hrole : ∀ W F' , RAt W F' p (r.handle (vm v)).1 (48 + 700000 * k + 700000) → Calls Try.prog 13 #[.pointer (some ⟨p, 0, none⟩)] W fun e w' => e = .returned (.int .i64 (r.handle (vm v)).1.role) ∧ W = w' := fun W F' h => p_role h
        generalize r.handle (vm v) = X at *
        clear hc0 ha hnw hf hel hv hS hkl
        simp only [vm, Ms.v, List.length_nil] at hha
        have HCELL := Lib.hid hcell
        have HMD := Lib.hid hmd
        have HRL := Lib.hid hrl
        have HHA := Lib.hid hha
        have HEND := Lib.hid hend
        have HCM := Lib.hid hcm
        have HROLE := Lib.hid hrole
        have HORB := Lib.hid horb
        have ST1 := Lib.hid st1
        have ST2 := Lib.hid st2
        have ST3 := Lib.hid st3
        have ST4 := Lib.hid st4
        have HCLE := Lib.hid hcle
        clear hcell hmd hrl hha hend hcm hrole horb st1 st2 st3 st4 hcle
        by_cases led : r.role = 3
        · have hmj := ST4.out led
          have l1 : (r.role == 3) = true := by simpa using led
          have l2 : (X.1.role == 3) = true := by simpa using ST2.out.2 hmj
          have m1 : decide (N < 2 * cntV s2 N) = true := by simpa using hmj
          have m2 : decide ((N : Int) < 2 * ((cntV s2 N : Nat) : Int)) = true := by simp; omega
          have m3 : decide (2 * ((cntV s2 N : Nat) : Int) ≤ (N : Int)) = false := by simp; omega
          have m4 : decide (2 * cntV s2 N ≤ N) = false := by simp; omega
          have hlen : X.2.length = 0 := by rw [ST3.out, if_neg (by omega)]
          clear hmj led
          have HLEN := Lib.hid hlen
          clear hlen
          have cx := HCELL.out
          go_wp2_with fail
          refine (HMD.out _).mono ?_
          rintro e w5 ⟨rfl, rfl⟩
          go_wp2_with fail
          refine HRL.out.mono ?_
          rintro e w5 ⟨rfl, rfl⟩
          go_wp2_with fail
          refine HHA.out.mono ?_
          rintro e w5 q5
          obtain ⟨U5, c5, H5, G5, rfl, m5, a5, n5, g5, k5, f5, -, -⟩ := HEND.out _ _ q5
          have T5 := Lib.hid (show ElAt w p N (k + 1) s2 w5 from ⟨_, H5, ST1.out, a5.more (by omega), n5, f5⟩)
          have hro := HROLE.out _ _ a5
          clear m5 a5 n5 g5 k5 f5 cx HEND HROLE q5
          have HRO := Lib.hid hro
          clear hro
          rw [HLEN.out]
          go_wp2_with fail
          rw [HORB.out]
          go_loop [12, 13] (fun c i => ∃ j : Nat, j ≤ N ∧ i = .int .i64 j ∧ c = .int .i64 ((cntV s2 j : Nat) : Int)) (fun _ i => N - (intOf i).toNat)
          case atStart => exact ⟨0, Nat.zero_le _, rfl, rfl⟩
          case round =>
            obtain ⟨j, hj, rfl, rfl⟩ := hrel
            by_cases hjl : j < N
            · have e1 : decide (j < N) = true := by simpa using hjl
              have e2 : decide ((j : Int) < (N : Int)) = true := by simp; omega
              have hstep := HCM.out j (by omega)
              have hle1 := HCLE.out j
              have HSTEP := Lib.hid hstep
              clear hstep
              go_wp2_with fail
              go_round
              case rel => exact ⟨j + 1, by omega, by go_num, by rw [HSTEP.out]⟩
              case measure => simp [intOf]; omega
            · obtain rfl : j = N := by omega
              have e1 : decide (j < j) = false := by simp
              have e2 : decide ((j : Int) < (j : Int)) = false := by simp
              have hle1 := HCLE.out j
              generalize cntV s2 j = C at *
              go_wp2_with fail
              refine HRO.out.mono ?_
              rintro e w6 ⟨rfl, rfl⟩
              go_wp2_with fail
              go_roundw
              case rel => exact ⟨k + 1, s2, by omega, by go_num, rfl, T5.out⟩
              case measure => simp [intOf]; omega
        · by_cases hmj : N < 2 * cntV s2 N
          · have l1 : (r.role == 3) = false := by simpa using led
            have l2 : (X.1.role == 3) = true := by simpa using ST2.out.2 hmj
            have m1 : decide (N < 2 * cntV s2 N) = true := by simpa using hmj
            have m2 : decide ((N : Int) < 2 * ((cntV s2 N : Nat) : Int)) = true := by simp; omega
            have m3 : decide (2 * ((cntV s2 N : Nat) : Int) ≤ (N : Int)) = false := by simp; omega
            have m4 : decide (2 * cntV s2 N ≤ N) = false := by simp; omega
            have hlen : X.2.length = N - 1 := by rw [ST3.out, if_pos ⟨led, hmj⟩]
            have l3 : (((N - 1 : Nat) : Int) != (N : Int) - 1) = false := by simp; omega
            clear hmj led
            have HLEN := Lib.hid hlen
            clear hlen
            have cx := HCELL.out
            go_wp2_with fail
            refine (HMD.out _).mono ?_
            rintro e w5 ⟨rfl, rfl⟩
            go_wp2_with fail
            refine HRL.out.mono ?_
            rintro e w5 ⟨rfl, rfl⟩
            go_wp2_with fail
            refine HHA.out.mono ?_
            rintro e w5 q5
            obtain ⟨U5, c5, H5, G5, rfl, m5, a5, n5, g5, k5, f5, -, -⟩ := HEND.out _ _ q5
            have T5 := Lib.hid (show ElAt w p N (k + 1) s2 w5 from ⟨_, H5, ST1.out, a5.more (by omega), n5, f5⟩)
            have hro := HROLE.out _ _ a5
            clear m5 a5 n5 g5 k5 f5 cx HEND HROLE q5
            have HRO := Lib.hid hro
            clear hro
            rw [HLEN.out]
            go_wp2_with fail
            rw [HORB.out]
            go_loop [12, 13] (fun c i => ∃ j : Nat, j ≤ N ∧ i = .int .i64 j ∧ c = .int .i64 ((cntV s2 j : Nat) : Int)) (fun _ i => N - (intOf i).toNat)
            case atStart => exact ⟨0, Nat.zero_le _, rfl, rfl⟩
            case round =>
              obtain ⟨j, hj, rfl, rfl⟩ := hrel
              by_cases hjl : j < N
              · have e1 : decide (j < N) = true := by simpa using hjl
                have e2 : decide ((j : Int) < (N : Int)) = true := by simp; omega
                have hstep := HCM.out j (by omega)
                have hle1 := HCLE.out j
                have HSTEP := Lib.hid hstep
                clear hstep
                go_wp2_with fail
                go_round
                case rel => exact ⟨j + 1, by omega, by go_num, by rw [HSTEP.out]⟩
                case measure => simp [intOf]; omega
              · obtain rfl : j = N := by omega
                have e1 : decide (j < j) = false := by simp
                have e2 : decide ((j : Int) < (j : Int)) = false := by simp
                have hle1 := HCLE.out j
                generalize cntV s2 j = C at *
                go_wp2_with fail
                refine HRO.out.mono ?_
                rintro e w6 ⟨rfl, rfl⟩
                go_wp2_with fail
                go_roundw
                case rel => exact ⟨k + 1, s2, by omega, by go_num, rfl, T5.out⟩
                case measure => simp [intOf]; omega
          · have l1 : (r.role == 3) = false := by simpa using led
            have l2 : (X.1.role == 3) = false := by simpa using fun hh => hmj (ST2.out.1 hh)
            have m1 : decide (N < 2 * cntV s2 N) = false := by simpa using hmj
            have m2 : decide ((N : Int) < 2 * ((cntV s2 N : Nat) : Int)) = false := by simp; omega
            have m3 : decide (2 * ((cntV s2 N : Nat) : Int) ≤ (N : Int)) = true := by simp; omega
            have m4 : decide (2 * cntV s2 N ≤ N) = true := by simp; omega
            have hlen : X.2.length = 0 := by rw [ST3.out, if_neg (by omega)]
            clear hmj led
            have HLEN := Lib.hid hlen
            clear hlen
            have cx := HCELL.out
            go_wp2_with fail
            refine (HMD.out _).mono ?_
            rintro e w5 ⟨rfl, rfl⟩
            go_wp2_with fail
            refine HRL.out.mono ?_
            rintro e w5 ⟨rfl, rfl⟩
            go_wp2_with fail
            refine HHA.out.mono ?_
            rintro e w5 q5
            obtain ⟨U5, c5, H5, G5, rfl, m5, a5, n5, g5, k5, f5, -, -⟩ := HEND.out _ _ q5
            have T5 := Lib.hid (show ElAt w p N (k + 1) s2 w5 from ⟨_, H5, ST1.out, a5.more (by omega), n5, f5⟩)
            have hro := HROLE.out _ _ a5
            clear m5 a5 n5 g5 k5 f5 cx HEND HROLE q5
            have HRO := Lib.hid hro
            clear hro
            rw [HLEN.out]
            go_wp2_with fail
            rw [HORB.out]
            go_loop [12, 13] (fun c i => ∃ j : Nat, j ≤ N ∧ i = .int .i64 j ∧ c = .int .i64 ((cntV s2 j : Nat) : Int)) (fun _ i => N - (intOf i).toNat)
            case atStart => exact ⟨0, Nat.zero_le _, rfl, rfl⟩
            case round =>
              obtain ⟨j, hj, rfl, rfl⟩ := hrel
              by_cases hjl : j < N
              · have e1 : decide (j < N) = true := by simpa using hjl
                have e2 : decide ((j : Int) < (N : Int)) = true := by simp; omega
                have hstep := HCM.out j (by omega)
                have hle1 := HCLE.out j
                have HSTEP := Lib.hid hstep
                clear hstep
                go_wp2_with fail
                go_round
                case rel => exact ⟨j + 1, by omega, by go_num, by rw [HSTEP.out]⟩
                case measure => simp [intOf]; omega
              · obtain rfl : j = N := by omega
                have e1 : decide (j < j) = false := by simp
                have e2 : decide ((j : Int) < (j : Int)) = false := by simp
                have hle1 := HCLE.out j
                generalize cntV s2 j = C at *
                go_wp2_with fail
                refine HRO.out.mono ?_
                rintro e w6 ⟨rfl, rfl⟩
                go_wp2_with fail
                go_roundw
                case rel => exact ⟨k + 1, s2, by omega, by go_num, rfl, T5.out⟩
                case measure => simp [intOf]; omega
      · obtain rfl : k = len1 := by omega
        have b1 : decide (k < k) = false := by simp
        have b2 : decide ((k : Int) < (k : Int)) = false := by simp
        have F9 := Lib.hid hf
        clear hf ha hnw hel
        go_wp2_with fail
        go_ret
        exact ⟨ret_bool rfl, F9.out.belowNo⟩
end Go.Proofs.Ytneeajegegmigaa
