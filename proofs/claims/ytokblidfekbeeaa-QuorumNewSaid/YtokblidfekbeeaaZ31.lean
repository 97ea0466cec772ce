/-
  Several texts in one: QvG, QvF, QvE, QvI, QwA, QvH.
-/
import Derived.Test.YtokblidfekbeeaaZ30
import Derived.Test.YtokblidfekbeeaaZ28
import Derived.Deep.RegionHeld3
import Derived.Test.YtokblidfekbeeaaZ27
import Derived.Test.YtokblidfekbeeaaZ29
import Derived.BigQuiet
import Derived.Test.YtokblidfekbeeaaZ12
import Derived.Test.YtokblidfekbeeaaZ24
/- The quorum's laws: a script is played. -/
namespace Go.Proofs.Ytokblidfekbeeaa
open Go.ChangeShapes Go.WideShapes Go.ChangeAt Go.RowKit
set_option linter.unusedVariables false
/-- A script of steps that can be read in every later world. -/
structure StepsAt (w0 : World) (A : Option Addr) (l : List JAct) : Prop where
  most : l.length ≤ maxLen
  each : ∀ i, i < l.length → ∃ b off a, A = some ⟨b, off, none⟩ ∧ l[i]? = some a ∧ a.ok ∧ ∀ w' : World, Fr No w0 w' → w'.cell? ⟨b, off + i * 3, none⟩ = some (.int .i64 a.which) ∧ w'.cell? ⟨b, off + i * 3 + 1, none⟩ = some (.int .i64 a.a) ∧ w'.cell? ⟨b, off + i * 3 + 2, none⟩ = some (.int .i64 a.b)
theorem ActsAt.steps {w : World} {A : Option Addr} {len cap : Nat} {acts : List JAct} (h : ActsAt w A len cap acts) : StepsAt w A acts :=
  ⟨by rw [h.count]; exact h.most, fun i hi => h.at2 (by rw [← h.count]; exact hi)⟩
theorem StepsAt.one {w0 : World} {A : Option Addr} {l : List JAct} (h : StepsAt w0 A l) {i : Nat} (hi : i < l.length) : ∃ b off a, A = some ⟨b, off, none⟩ ∧ l[i]? = some a ∧ StepsAt w0 (some ⟨b, off + i * 3, none⟩) [a] := by
  obtain ⟨b, off, a, hA, ha, hok, hc⟩ := h.each i hi
  refine ⟨b, off, a, hA, ha, by simp [maxLen], fun j hj => ?_⟩
  rw [List.length_singleton] at hj
  obtain rfl : j = 0 := by omega
  exact ⟨b, off + i * 3, a, rfl, rfl, hok, hc⟩
theorem take_act {l : List JAct} {k : Nat} {a : JAct} (h : l[k]? = some a) : l.take (k + 1) = l.take k ++ [a] := by
  rw [List.take_add_one, h]
  rfl
section
variable {w w' : World} {lab lab' : Nat → Option Nat} {z n m : Nat} {pv : Nat → Nat} {q q1 : Qs} {F : Nat → Prop}
/-- What a call leaves of a quorum that is new since w0. -/
theorem QTo.frNo {w0 : World} (h : QTo w lab z pv q n w') (hf : Fr No w0 w) (hnew : ∀ b j, lab b = some j → w0.heap.size ≤ b) : Fr No w0 w' ∧ ∃ lab', QAt w' lab' z pv q n ∧ (∀ b j, lab' b = some j → w0.heap.size ≤ b) ∧ (∀ b, b < w.heap.size → lab' b = lab b) := by
  obtain ⟨lab1, a1, b1, c1⟩ := h
  refine ⟨hf.trans c1 fun b hb => .inr ?_, lab1, a1, fun b j hb => ?_, b1⟩
  · cases hlb : lab b with
    | none => exact absurd hlb hb
    | some j => exact hnew b j hlb
  · rcases Nat.lt_or_ge b w.heap.size with hl | hl
    · rw [b1 b hl] at hb
      exact hnew b j hb
    · exact Nat.le_trans hf.size hl
def PlayAt (w : World) (lab : Nat → Option Nat) (z : Nat) (pv : Nat → Nat) (q : Qs) (n : Nat) (l : List JAct) (k : Nat) (wr : World) : Prop := ∃ q', PlayTo q (l.take k) q' ∧ QTo w lab z pv q' (n + k * 4000700000) wr
set_option maxRecDepth 100000 in
set_option maxHeartbeats 8000000 in
theorem play_any {w0 : World} {A : Option Addr} {c : Nat} {l : List JAct} (h : QAt w lab z pv q n) (hnew : ∀ b j, lab b = some j → w0.heap.size ≤ b) (hf0 : Fr No w0 w) (hl : StepsAt w0 A l) (hsz : n + l.length * 4000700000 ≤ 140000000000000) :
    Calls Try.prog 13 #[.pointer (some ⟨z, 0, none⟩), .slice A l.length c, .int .i64 (q.n : Int)] w fun e w' => e = .returned (.tuple #[]) ∧ ∃ q', PlayTo q l q' ∧ QTo w lab z pv q' (n + l.length * 4000700000) w' := by
  have h5 := h.ok.five
  have hp := h.ok.pos
  obtain ⟨N, hN⟩ : ∃ N, N = q.n := ⟨_, rfl⟩
  obtain ⟨L, hL⟩ : ∃ L, L = l.length := ⟨_, rfl⟩
  have hst : PlayAt w lab z pv q n l 0 w := ⟨q, by rw [List.take_zero]; exact .nil, by simpa using h.self⟩
  have heach := hl.each
  have hend : ∀ wr, PlayAt w lab z pv q n l L wr → ∃ q', PlayTo q l q' ∧ QTo w lab z pv q' (n + L * 4000700000) wr := by
    rintro wr ⟨q', h1, h2⟩
    rw [hL, List.take_length] at h1
    exact ⟨q', h1, h2⟩
  have hlt0 := h.lt
  have hmo := hl.most
  unfold maxLen at hmo
  rw [← hL] at heach hsz hmo ⊢
  rw [← hN] at h5 hp ⊢
  clear h hl hL
  have HEACH := Lib.hid heach
  have HEND := Lib.hid hend
  have HST := Lib.hid hst
  have HNEW := Lib.hid hnew
  have HF0 := Lib.hid hf0
  have HLT0 := Lib.hid hlt0
  have HN := Lib.hid hN
  clear heach hend hst hnew hf0 hlt0 hN
  go_enter Try.func13, Try.ntmps13
  go_wp2_with fail
  go_loopw [6] (fun i wr => ∃ k : Nat, k ≤ L ∧ i = .int .i64 k ∧ PlayAt w lab z pv q n l k wr) (fun i _ => L - (intOf i).toNat)
  case atStart => exact ⟨0, Nat.zero_le _, rfl, HST.out⟩
  case round =>
    obtain ⟨k, hk, rfl, hrel⟩ := hrel
    by_cases hlt : k < L
    · have b1 : decide (k < L) = true := decide_eq_true hlt
      have b2 : decide ((k : Int) < (L : Int)) = true := decide_eq_true (by omega)
      have hk2 : (k : Int) < (L : Int) := by omega
      obtain ⟨q', hp', hq'⟩ := hrel
      have hfw := (hq'.frNo HF0.out HNEW.out).1
      obtain ⟨lab1, hq, hl1, hfr⟩ := hq'
      have hn1 : ∀ b j, lab1 b = some j → w0.heap.size ≤ b := fun b j hb => by
        rcases Nat.lt_or_ge b w.heap.size with hh | hh
        · rw [hl1 b hh] at hb
          exact HNEW.out b j hb
        · exact Nat.le_trans HF0.out.size hh
      obtain ⟨b, off, a, rfl, ha, hok, hcells⟩ := HEACH.out k hlt
      have hcw := fun W (hf : Fr No wr W) => hcells W (hfw.transNo hf)
      obtain ⟨c0, c1, c2⟩ := hcw wr (Fr.refl _ _)
      have hN' : q'.n = N := hp'.n.trans HN.out.symm
      have hact := fun W => act_any a.which a.a a.b N q'.net.length hp h5 hq.ok.net W
      have hnet := fun W (hf : Fr No wr W) => q_Net_len (hq.frNo hf)
      have hdo := fun W (hf : Fr No wr W) => q_do (hq.frNo hf) (stepKind a.which) (a.a % (N : Int)) (stepNum a.which a.b q'.net.length) (noteE (a.b % 1000)) (note_ok a.b) (by omega)
      have hE : q'.act (stepKind a.which) (a.a % (N : Int)) (stepNum a.which a.b q'.net.length) (noteE (a.b % 1000)) = stepAct q' a := by unfold stepAct; rw [hN']
      unfold DoTo at hdo
      rw [hE] at hdo
      have hafter := fun W W' (hf : Fr No wr W) (h2 : QTo W lab1 z pv (stepAct q' a) (n + k * 4000700000 + 700000) W') => (show Fr No w0 W' ∧ QTo wr lab1 z pv (stepAct q' a) (n + k * 4000700000 + 700000) W' from (let t := QTo.after hf hq.lt h2; ⟨(t.frNo hfw hn1).1, t⟩))
      have hcat : ∀ Q W', StepTo q' a Q → QTo wr lab1 z pv Q (n + (k + 1) * 4000700000) W' → PlayAt w lab z pv q n l (k + 1) W' := by
        intro Q W' hS hQ
        exact ⟨Q, by rw [take_act ha]; exact .snoc _ _ _ _ hp' hS, hQ.from hl1 hfr⟩
      have hflush : ∀ v3, QTo wr lab1 z pv (stepAct q' a) (n + k * 4000700000 + 700000) v3 → Calls Try.prog 22 #[.pointer (some ⟨z, 0, none⟩), .int .i64 a.a] v3 fun e w' => ∃ (k' : Nat) (Q : Qs), e = .returned (.int .i64 k') ∧ Flushes a.a (stepAct q' a) 0 Q k' ∧ QTo wr lab1 z pv Q (n + (k + 1) * 4000700000) w' := by
        rintro v3 ⟨lab3, x1, x2, x3⟩
        refine (q_flush x1 a.a (by omega)).mono ?_
        rintro e v4 ⟨k', Q, rfl, -, y1, y2⟩
        exact ⟨k', Q, rfl, y1, (y2.more (by omega)).from x2 x3⟩
      have hmore : ∀ v3, QTo wr lab1 z pv (stepAct q' a) (n + k * 4000700000 + 700000) v3 → QTo wr lab1 z pv (stepAct q' a) (n + (k + 1) * 4000700000) v3 := fun v3 x => x.more (by omega)
      generalize hNL : q'.net.length = NL at *
      generalize hSA : stepAct q' a = SA at *
      generalize hXX : q'.actX (stepKind a.which) (a.a % (N : Int)) (stepNum a.which a.b NL) (noteE (a.b % 1000)) = XX at *
      have hS5 : a.b.tmod 5 = 0 → ∀ Q k', Flushes a.a SA 0 Q k' → StepTo q' a Q := fun hh Q k' hfl => by
        unfold StepTo
        rw [if_pos hh, hSA]
        exact ⟨k', hfl⟩
      have hS0 : a.b.tmod 5 ≠ 0 → StepTo q' a SA := fun hh => by
        unfold StepTo
        rw [if_neg hh, hSA]
      clear hq hE ha hok hp' hN' hn1 hNL hSA hXX hl1 hfr
      have HCELLS := Lib.hid hcells
      have HCW := Lib.hid hcw
      have HACT := Lib.hid hact
      have HNET := Lib.hid hnet
      have HDO := Lib.hid hdo
      have HAFTER := Lib.hid hafter
      have HCAT := Lib.hid hcat
      have HFLUSH := Lib.hid hflush
      have HMORE := Lib.hid hmore
      have HS5 := Lib.hid hS5
      have HS0 := Lib.hid hS0
      have HFW := Lib.hid hfw
      clear hcells hcw hact hnet hdo hafter hcat hflush hmore hS5 hS0 hfw
      go_wp2_with fail
      have hd := HCW.out wr.drew (Fr.refl _ _).drew
      go_region_held3 (fun V => V.cell? ⟨b, off + k * 3, none⟩ = some (.int .i64 a.which) ∧ V.cell? ⟨b, off + k * 3 + 1, none⟩ = some (.int .i64 a.a) ∧ V.cell? ⟨b, off + k * 3 + 2, none⟩ = some (.int .i64 a.b)) (first | exact hd | exact k1 | exact k2 | exact k3 | exact HCW.out _ (by repeat (first | assumption | exact Fr.refl _ _ | refine Fr.alloc ?_ _ | refine Fr.drew ?_ | refine Fr.drewN ?_ _))) (first
        | (go_at_call 30; refine (HNET.out _ (by repeat (first | assumption | exact Fr.refl _ _ | refine Fr.alloc ?_ _ | refine Fr.drew ?_ | refine Fr.drewN ?_ _))).mono ?_; rintro e v1 ⟨A1, c1', rfl, f1'⟩; have F1 : Fr No wr v1 := Fr.transNo (by repeat (first | assumption | exact Fr.refl _ _ | refine Fr.alloc ?_ _ | refine Fr.drew ?_ | refine Fr.drewN ?_ _)) f1'; have k1 := HCW.out v1 F1; clear f1')
        | (go_at_call 29; refine (HACT.out _).mono ?_; rintro e v2 ⟨rfl, f2'⟩; have F2 : Fr No wr v2 := Fr.transNo (by repeat (first | assumption | exact Fr.refl _ _ | refine Fr.alloc ?_ _ | refine Fr.drew ?_ | refine Fr.drewN ?_ _)) f2'; have k2 := HCW.out v2 F2; clear f2')
        | (go_at_call 24; refine (HDO.out _ (by repeat (first | assumption | exact Fr.refl _ _ | refine Fr.alloc ?_ _ | refine Fr.drew ?_ | refine Fr.drewN ?_ _))).mono ?_; rintro e v3 ⟨rfl, q3'⟩; obtain ⟨f3', D3'⟩ := HAFTER.out _ v3 (by repeat (first | assumption | exact Fr.refl _ _ | refine Fr.alloc ?_ _ | refine Fr.drew ?_ | refine Fr.drewN ?_ _)) q3'; have k3 := HCELLS.out v3 f3'; have D3 := Lib.hid D3'; clear q3' f3' D3'))
      clear c0 c1 c2 hd k1 k2 HCW HACT HNET HDO HAFTER
      obtain ⟨c0, c1, c2⟩ := k3
      by_cases hm5 : a.b.tmod 5 = 0
      · have g5 : (a.b.tmod 5 == 0) = true := by simpa using hm5
        have hs := Lib.hid (HS5.out hm5)
        clear hm5 HS5 HS0
        go_wp2_with fail
        refine (HFLUSH.out _ D3.out).mono ?_
        rintro e v4 ⟨k', Q, rfl, hfl, q4⟩
        have T9 := Lib.hid (HCAT.out Q v4 (hs.out Q k' hfl) q4)
        clear hfl q4 c0 c1 c2 HFLUSH HCAT HMORE D3
        go_wp2_with fail
        go_roundw
        case rel => exact ⟨k + 1, by omega, by go_num, T9.out⟩
        case measure => simp [intOf]; omega
      · have g5 : (a.b.tmod 5 == 0) = false := by simpa using hm5
        have T9 := Lib.hid (HCAT.out SA _ (HS0.out hm5) (HMORE.out _ D3.out))
        clear hm5 HS5 HS0 HFLUSH HCAT HMORE D3
        go_wp2_with fail
        go_roundw
        case rel => exact ⟨k + 1, by omega, by go_num, T9.out⟩
        case measure => simp [intOf]; omega
    · obtain rfl : k = L := by omega
      have b1 : decide (k < k) = false := by simp
      have T9 := Lib.hid (HEND.out _ hrel)
      clear hrel
      go_wp2_with fail
      go_end0
      exact ⟨rfl, T9.out⟩
end
end Go.Proofs.Ytokblidfekbeeaa
/- The program's quorum: Leader. -/
namespace Go.Proofs.Ytokblidfekbeeaa
open Go.ChangeShapes Go.WideShapes Go.ChangeAt Go.RowKit
set_option linter.unusedVariables false
section
variable {w w' : World} {lab lab' : Nat → Option Nat} {z n m : Nat} {pv : Nat → Nat} {q q1 : Qs} {F : Nat → Prop}
theorem lead_yes {rs : Nat → Rs} {k : Nat} (h : (rs k).role = 3) (h2 : leadG rs k < 0 ∨ (rs (leadG rs k).toNat).js.term < (rs k).js.term) : leadG rs (k + 1) = k := by
  simp only [leadG]
  rw [if_pos ⟨h, h2⟩]
theorem lead_no {rs : Nat → Rs} {k : Nat} (h : (rs k).role = 3 → ¬ (leadG rs k < 0 ∨ (rs (leadG rs k).toNat).js.term < (rs k).js.term)) : leadG rs (k + 1) = leadG rs k := by
  simp only [leadG]
  rw [if_neg fun hh => h hh.1 hh.2]
set_option maxRecDepth 100000 in
set_option maxHeartbeats 4000000 in
theorem q_Leader (h : QAt w lab z pv q n) : Calls Try.prog 28 #[.pointer (some ⟨z, 0, none⟩)] w fun e w' => e = .returned (.int .i64 (leadG q.rs q.n)) ∧ Fr No w w' := by
  have hrole := fun W (hf : Fr No w W) i (hi : i < q.n) => p_role ((h.frNo hf).reps i hi)
  have hterm := fun W (hf : Fr No w W) i (hi : i < q.n) => p_term ((h.frNo hf).reps i hi).rj
  have h5 := h.ok.five
  have hzl := h.lt z 0 h.z0
  obtain ⟨br, cr, hnc, hcm, hr⟩ := h.row
  obtain ⟨z0, -⟩ := hr w (Fr.refl _ _)
  unfold maxLen at hcm
  obtain ⟨N, hN⟩ : ∃ N, N = q.n := ⟨_, rfl⟩
  rw [← hN] at hrole hterm h5 hr z0 hnc ⊢
  clear h hN
  have HROLE := Lib.hid hrole
  have HTERM := Lib.hid hterm
  have HR := Lib.hid hr
  clear hrole hterm hr
  go_enter Try.func28, Try.ntmps28
  go_wp2_with fail
  go_loopw [3, 11] (fun b i wr => ∃ k : Nat, k ≤ N ∧ i = .int .i64 k ∧ b = .int .i64 (leadG q.rs k) ∧ Fr No w wr) (fun _ i _ => N - (intOf i).toNat)
  case atStart => exact ⟨0, Nat.zero_le _, rfl, rfl, Fr.refl _ _⟩
  case round =>
    obtain ⟨k, hk, rfl, rfl, hf⟩ := hrel
    by_cases hlt : k < N
    · have b1 : decide (k < N) = true := decide_eq_true hlt
      have b2 : decide ((k : Int) < (N : Int)) = true := decide_eq_true (by omega)
      have hk2 : (k : Int) < (N : Int) := by omega
      obtain ⟨z1, cr1⟩ := HR.out wr hf
      have ck := cr1 k hlt
      have hro := fun W hf => HROLE.out W hf k hlt
      have htk := fun W hf => HTERM.out W hf k hlt
      rcases leadG_range q.rs k with hl | ⟨hl0, hl1⟩
      · by_cases h3 : (q.rs k).role = 3
        · rw [h3] at hro
          have hy := lead_yes (rs := q.rs) (k := k) h3 (.inl (by omega))
          rw [hl]
          clear cr1 hl
          have HRO := Lib.hid hro
          have HF := Lib.hid hf
          have HY := Lib.hid hy
          clear hro hf hy
          go_wp2_with fail
          go_quiet ((go_at_call 37; exact quiet_same (HRO.out _ (HF.out.drewN _))))
          go_wp2_with fail
          go_roundw
          case rel => exact ⟨k + 1, by omega, by go_num, by rw [HY.out], HF.out.drewN _⟩
          case measure => simp [intOf]; omega
        · have g1 : ((q.rs k).role == 3) = false := by simpa using h3
          have hy := lead_no (rs := q.rs) (k := k) (fun hh => absurd hh h3)
          rw [hl] at hy ⊢
          clear cr1 hl h3
          have HRO := Lib.hid hro
          have HF := Lib.hid hf
          have HY := Lib.hid hy
          clear hro hf hy
          go_wp2_with fail
          go_quiet ((go_at_call 37; exact quiet_same (HRO.out _ (HF.out.drewN _))))
          go_wp2_with fail
          go_roundw
          case rel => exact ⟨k + 1, by omega, by go_num, by rw [HY.out], HF.out.drewN _⟩
          case measure => simp [intOf]; omega
      · obtain ⟨b, hb⟩ : ∃ b : Nat, leadG q.rs k = (b : Int) := ⟨_, (Int.toNat_of_nonneg hl0).symm⟩
        have hbN : b < N := by omega
        have hbN2 : (b : Int) < (N : Int) := by omega
        have cb := cr1 b hbN
        have htb := fun W hf => HTERM.out W hf b hbN
        have n0 : decide ((b : Int) < 0) = false := decide_eq_false (by omega)
        by_cases h3 : (q.rs k).role = 3
        · rw [h3] at hro
          by_cases ht : (q.rs b).js.term < (q.rs k).js.term
          · have hy := lead_yes (rs := q.rs) (k := k) h3 (.inr (by rw [hb]; exact ht))
            have g2 : decide ((q.rs b).js.term < (q.rs k).js.term) = true := decide_eq_true ht
            rw [hb]
            clear cr1 hl0 hl1 hb ht
            generalize (q.rs b).js.term = TB at *
            generalize (q.rs k).js.term = TK at *
            have HRO := Lib.hid hro
            have HF := Lib.hid hf
            have HY := Lib.hid hy
            have HTK := Lib.hid htk
            have HTB := Lib.hid htb
            clear hro hf hy htk htb
            go_wp2_with fail
            go_quiet (first
              | (go_at_call 37; exact quiet_same (HRO.out _ (HF.out.drewN _)))
              | (go_at_call 38; exact quiet_same (HTK.out _ (HF.out.drewN _)))
              | (go_at_call 38; exact quiet_same (HTB.out _ (HF.out.drewN _))))
            go_wp2_with fail
            go_roundw
            case rel => exact ⟨k + 1, by omega, by go_num, by rw [HY.out], HF.out.drewN _⟩
            case measure => simp [intOf]; omega
          · have hy := lead_no (rs := q.rs) (k := k) (fun _ => by rw [hb]; simp only [Int.toNat_natCast]; omega)
            have g2 : decide ((q.rs b).js.term < (q.rs k).js.term) = false := decide_eq_false ht
            rw [hb] at hy ⊢
            clear cr1 hl0 hl1 hb ht
            generalize (q.rs b).js.term = TB at *
            generalize (q.rs k).js.term = TK at *
            have HRO := Lib.hid hro
            have HF := Lib.hid hf
            have HY := Lib.hid hy
            have HTK := Lib.hid htk
            have HTB := Lib.hid htb
            clear hro hf hy htk htb
            go_wp2_with fail
            go_quiet (first
              | (go_at_call 37; exact quiet_same (HRO.out _ (HF.out.drewN _)))
              | (go_at_call 38; exact quiet_same (HTK.out _ (HF.out.drewN _)))
              | (go_at_call 38; exact quiet_same (HTB.out _ (HF.out.drewN _))))
            go_wp2_with fail
            go_roundw
            case rel => exact ⟨k + 1, by omega, by go_num, by rw [HY.out], HF.out.drewN _⟩
            case measure => simp [intOf]; omega
        · have g1 : ((q.rs k).role == 3) = false := by simpa using h3
          have hy := lead_no (rs := q.rs) (k := k) (fun hh => absurd hh h3)
          rw [hb] at hy ⊢
          clear cr1 hl0 hl1 hb h3
          have HRO := Lib.hid hro
          have HF := Lib.hid hf
          have HY := Lib.hid hy
          clear hro hf hy
          go_wp2_with fail
          go_quiet ((go_at_call 37; exact quiet_same (HRO.out _ (HF.out.drewN _))))
          go_wp2_with fail
          go_roundw
          case rel => exact ⟨k + 1, by omega, by go_num, by rw [HY.out], HF.out.drewN _⟩
          case measure => simp [intOf]; omega
    · obtain rfl : k = N := by omega
      have b1 : decide (k < k) = false := by simp
      have HF := Lib.hid hf
      go_wp2_with fail
      go_ret
      exact ⟨rfl, HF.out⟩
end
end Go.Proofs.Ytokblidfekbeeaa
/- Same of two lists of entries; whether one list begins another. -/
namespace Go.Proofs.Ytokblidfekbeeaa
open Go.ChangeShapes Go.WideShapes Go.ChangeAt Go.RowKit
set_option linter.unusedVariables false
theorem ent_neq (e f : En) (W : World) : (binOp .neq TEnt e.v f.v).run Try.prog W = .ok (.bool (!decide (e = f))) W := by
  have h := ent_equal e f 9998 W
  unfold En.v at *
  simp only [binOp]
  simp [Op.equal, Op.maxDepth, h]
theorem Rd.entAt {w : World} {A : Option Addr} {xs : List En} (h : Rd w w.heap.size A (entV xs)) {i : Nat} (hi : i < xs.length) :
    ∃ b off x, A = some ⟨b, off, none⟩ ∧ xs[i]? = some x ∧ ∀ W, Fr No w W → (W.cell? ⟨b, off + i * 9, none⟩ = some (.int .i64 x.kind) ∧ W.cell? ⟨b, off + i * 9 + 1, none⟩ = some (.int .i64 x.tick) ∧ W.cell? ⟨b, off + i * 9 + 2, none⟩ = some (.int .i64 x.tenant) ∧ W.cell? ⟨b, off + i * 9 + 3, none⟩ = some (.int .i64 x.cell) ∧ W.cell? ⟨b, off + i * 9 + 4, none⟩ = some (.int .i64 x.other) ∧ W.cell? ⟨b, off + i * 9 + 5, none⟩ = some (.int .i64 x.epoch) ∧ W.cell? ⟨b, off + i * 9 + 6, none⟩ = some (.int .i64 x.from_) ∧ W.cell? ⟨b, off + i * 9 + 7, none⟩ = some (.int .i64 x.until_) ∧ W.cell? ⟨b, off + i * 9 + 8, none⟩ = some (.int .i64 x.n)) := by
  have hl := entV_len xs
  obtain ⟨b, off, rfl, hb, hc⟩ := h.at_ (by omega)
  obtain ⟨x, hx⟩ : ∃ x, xs[i]? = some x := ⟨_, List.getElem?_eq_getElem hi⟩
  refine ⟨b, off, x, rfl, hx, fun W hW => ?_⟩
  have e := fun j (hj : j < 9) => ((hW.cell (p := ⟨b, off + (i * 9 + j), none⟩) hb (fun h => h)).trans (by rw [hc (i * 9 + j) (by omega), ← List.getElem?_eq_getElem, entV_get xs i j x hx hj]) : W.cell? ⟨b, off + (i * 9 + j), none⟩ = x.cells[j]?)
  exact ⟨e 0 (by omega), e 1 (by omega), e 2 (by omega), e 3 (by omega), e 4 (by omega), e 5 (by omega), e 6 (by omega), e 7 (by omega), e 8 (by omega)⟩
theorem take_en_succ {xs ys : List En} {k : Nat} {x : En} (h : xs.take k = ys.take k) (hx : xs[k]? = some x) (hy : ys[k]? = some x) : xs.take (k + 1) = ys.take (k + 1) := by
  rw [List.take_add_one, List.take_add_one, h, hx, hy]
section
variable {w w' : World} {F G H : Nat → Prop}
set_option maxRecDepth 100000 in
set_option maxHeartbeats 2000000 in
theorem same_entries {A B : Option Addr} {c d : Nat} {xs ys : List En} (hA : Rd w w.heap.size A (entV xs)) (hB : Rd w w.heap.size B (entV ys)) (hM2 : xs.length ≤ c) (hM : c ≤ maxLen) (hM4 : ys.length ≤ d) (hM3 : d ≤ maxLen) :
    Calls Try.prog 35 #[.slice A xs.length c, .slice B ys.length d] w fun e w' => e = .returned (.bool (decide (xs = ys))) ∧ Fr No w w' := by
  unfold maxLen at hM hM3
  have ha := fun i hi => hA.entAt (i := i) hi
  have hb := fun i hi => hB.entAt (i := i) hi
  by_cases hl : xs.length = ys.length
  · have t1 : (xs.length != ys.length) = false := by simpa using hl
    have t2 : ((xs.length : Int) != (ys.length : Int)) = false := by simp; omega
    clear hA hB
    generalize hY : decide (xs = ys) = Y at *
    rw [← hl] at hM4 t1 t2 ⊢
    have HA := Lib.hid ha
    have HB := Lib.hid hb
    have HY := Lib.hid hY
    have HL := Lib.hid hl
    clear ha hb hY hl
    go_enter Try.func35, Try.ntmps35
    go_wp2_with fail
    go_loopw [5] (fun i wr => ∃ k : Nat, k ≤ xs.length ∧ i = .int .i64 k ∧ xs.take k = ys.take k ∧ Fr No w wr) (fun i _ => xs.length - (intOf i).toNat)
    case atStart => exact ⟨0, Nat.zero_le _, rfl, rfl, Fr.refl _ _⟩
    case round =>
      obtain ⟨k, hk, rfl, htk, hf⟩ := hrel
      by_cases hlt : k < xs.length
      · have b1 : decide (k < xs.length) = true := by simpa using hlt
        have b2 : decide ((k : Int) < (xs.length : Int)) = true := by simp; omega
        have hlt2 : (k : Int) < (xs.length : Int) := by omega
        obtain ⟨b, off, x, rfl, hx, hxc⟩ := HA.out k hlt
        obtain ⟨b', off', y, rfl, hy, hyc⟩ := HB.out k (by rw [← HL.out]; exact hlt)
        obtain ⟨c0, c1, c2, c3, c4, c5, c6, c7, c8⟩ := hxc wr hf
        obtain ⟨d0, d1, d2, d3, d4, d5, d6, d7, d8⟩ := hyc wr hf
        by_cases he : x = y
        · subst he
          have hN := fun W => ent_neq x x W
          simp only [decide_true, Bool.not_true] at hN
          have hsu := take_en_succ htk hx hy
          obtain ⟨kd, tick, te, ce, ot, ep, fr, un, nn⟩ := x
          unfold En.v at hN
          simp only at *
          have hG := fun (u v : Operand) (V : World) => ent_guard .neq u v #[.int .i64 kd, .int .i64 tick, .int .i64 te, .int .i64 ce, .int .i64 ot, .int .i64 ep, .int .i64 fr, .int .i64 un, .int .i64 nn] #[.int .i64 kd, .int .i64 tick, .int .i64 te, .int .i64 ce, .int .i64 ot, .int .i64 ep, .int .i64 fr, .int .i64 un, .int .i64 nn] V
          clear hxc hyc hx hy htk
          have HF := Lib.hid hf
          have HSU := Lib.hid hsu
          clear hf hsu
          go_wp2_with fail
          go_quiet (fail)
          go_wp2_with fail
          go_roundw
          case rel => exact ⟨k + 1, by omega, by go_num, HSU.out, HF.out.drewN _⟩
          case measure => simp [intOf]; omega
        · have hN := fun W => ent_neq x y W
          rw [show (decide (x = y)) = false from by simpa using he] at hN
          simp only [Bool.not_false] at hN
          have hYf : false = Y := by
            rw [← HY.out]
            symm
            rw [decide_eq_false_iff_not]
            intro hh
            rw [hh] at hx
            rw [hx] at hy
            exact he (Option.some.inj hy)
          obtain ⟨kd, tick, te, ce, ot, ep, fr, un, nn⟩ := x
          obtain ⟨kd', tick', te', ce', ot', ep', fr', un', nn'⟩ := y
          unfold En.v at hN
          simp only at *
          have hG := fun (u v : Operand) (V : World) => ent_guard .neq u v #[.int .i64 kd, .int .i64 tick, .int .i64 te, .int .i64 ce, .int .i64 ot, .int .i64 ep, .int .i64 fr, .int .i64 un, .int .i64 nn] #[.int .i64 kd', .int .i64 tick', .int .i64 te', .int .i64 ce', .int .i64 ot', .int .i64 ep', .int .i64 fr', .int .i64 un', .int .i64 nn'] V
          clear hxc hyc hx hy htk he
          have HF := Lib.hid hf
          have HYF := Lib.hid hYf
          clear hf hYf
          go_wp2_with fail
          go_quiet (fail)
          go_wp2_with fail
          go_ret
          exact ⟨ret_bool HYF.out, HF.out.drewN _⟩
      · obtain rfl : k = xs.length := by omega
        have b1 : decide (xs.length < xs.length) = false := by simp
        have hYt : true = Y := by
          rw [← HY.out]
          symm
          rw [decide_eq_true_iff]
          have h2 := HL.out
          rw [List.take_length, h2, List.take_length] at htk
          exact htk
        clear htk
        have HF := Lib.hid hf
        have HYT := Lib.hid hYt
        clear hf hYt
        go_wp2_with fail
        go_ret
        exact ⟨ret_bool HYT.out, HF.out⟩
  · have hY : decide (xs = ys) = false := by
      rw [decide_eq_false_iff_not]
      intro hh
      exact hl (by rw [hh])
    rw [hY]
    have t1 : (xs.length != ys.length) = true := by simpa using hl
    have t2 : ((xs.length : Int) != (ys.length : Int)) = true := by simp; omega
    clear hY hl ha hb hA hB
    go_enter Try.func35, Try.ntmps35
    go_wp2_with fail
    go_ret
    exact ⟨rfl, Fr.refl _ _⟩
theorem OwnN.addr {w : World} {F : Nat → Prop} {e : TypeId} {size n : Nat} {xs : List Value} {A : Option Addr} {c : Nat} (h : OwnN w F e size (.slice A n c) n xs) : A = none ∨ ∃ g, A = some ⟨g, 0, none⟩ := by
  rcases h.1.2 with ⟨hv, h0⟩ | ⟨g, cap, cur, hv, -⟩
  · injection hv with e1 e2 e3
    exact .inl e1
  · injection hv with e1 e2 e3
    exact .inr ⟨g, e1⟩
theorem run_toN {P : Program} (t e : TypeId) (ht : P.underlying t = some (.slice e)) (i : TypeInfo) (hi : P.info? e = some i) (A : Option Addr) (hA : A = none ∨ ∃ g, A = some ⟨g, 0, none⟩) (n c k : Nat) (hk : k ≤ c) :
    ∀ w : World, (Instr.slice t (.slice A n c) none (some (.int .i64 (k : Int))) none).run P w = .ok (.slice A k c) w := by
  rcases hA with rfl | ⟨g, rfl⟩
  · intro w
    have he : P.elem t = e := by simp [Program.elem, ht]
    rw [run_slice_h w t _ n c (by rw [he]; exact ht) .i64 (k : Int) (by omega) (by omega), he]
    simp [sizeOf, typeInfo, hi, sliced]
  · exact run_to t e ht i hi g n c k hk
theorem entV_take (l : List En) (k : Nat) : entV (l.take k) = (entV l).take (k * 9) := by
  have hl := entV_len (l.take k)
  have h1 : entV (l.take k) ++ entV (l.drop k) = entV l := by
    unfold entV
    rw [← List.flatMap_append, List.take_append_drop]
  by_cases hk : k ≤ l.length
  · rw [List.length_take] at hl
    rw [← h1, List.take_append_of_le_length (by omega)]
    exact (List.take_of_length_le (by omega)).symm
  · rw [List.take_of_length_le (by omega), List.take_of_length_le (by rw [entV_len]; omega)]
set_option maxRecDepth 100000 in
set_option maxHeartbeats 2000000 in
theorem begins_any {A B : Option Addr} {c d : Nat} {xs ys : List En} (hA : OwnN w F TEq 9 (.slice A xs.length c) xs.length (entV xs)) (hB : OwnN w G TEq 9 (.slice B ys.length d) ys.length (entV ys)) :
    Calls Try.prog 17 #[.slice A xs.length c, .slice B ys.length d] w fun e w' => e = .returned (.bool (decide (xs <+: ys))) ∧ Fr No w w' := by
  obtain ⟨i0, hi0, hz0, hz1, hz2⟩ := info_parts enq_info
  obtain ⟨hM2, hM⟩ := hA.cap
  obtain ⟨hM4, hM3⟩ := hB.cap
  by_cases hl : xs.length ≤ ys.length
  · have t1 : decide (xs.length ≤ ys.length) = true := by simpa using hl
    have t2 : decide ((xs.length : Int) ≤ (ys.length : Int)) = true := by simp; omega
    have hty : (ys.take xs.length).length = xs.length := by rw [List.length_take]; omega
    have hs := run_toN (P := Try.prog) 39 TEq (by kernel_rfl) i0 hi0 B hB.addr ys.length d xs.length (by omega)
    have hsame := same_entries (A := A) (B := B) (c := c) (d := d) (xs := xs) (ys := ys.take xs.length) hA.rd (by rw [entV_take]; exact hB.rd.take _) hM2 hM (by omega) hM3
    rw [hty] at hsame
    have hdec : decide (xs <+: ys) = decide (xs = ys.take xs.length) := by
      rw [decide_eq_decide, List.prefix_iff_eq_take]
    rw [hdec]
    generalize decide (xs = ys.take xs.length) = Y at *
    unfold maxLen at hM hM3
    clear hdec hA hB hty
    generalize xs.length = m at *
    generalize ys.length = n at *
    have HSAME := Lib.hid hsame
    clear hsame
    go_enter Try.func17, Try.ntmps17
    go_wp2_with fail
    refine HSAME.out.mono ?_
    rintro e w1 ⟨rfl, f1⟩
    go_wp2_with fail
    go_ret
    exact ⟨rfl, f1⟩
  · have t1 : decide (xs.length ≤ ys.length) = false := by simpa using hl
    have t2 : decide ((xs.length : Int) ≤ (ys.length : Int)) = false := by simp; omega
    have hdec : decide (xs <+: ys) = false := by
      rw [decide_eq_false_iff_not]
      intro hh
      exact hl hh.length_le
    rw [hdec]
    clear hdec hA hB hl
    unfold maxLen at hM hM3
    generalize xs.length = m at *
    generalize ys.length = n at *
    go_enter Try.func17, Try.ntmps17
    go_wp2_with fail
    go_ret
    exact ⟨rfl, Fr.refl _ _⟩
end
end Go.Proofs.Ytokblidfekbeeaa
/- The quorum's laws: the sanity check. -/
namespace Go.Proofs.Ytokblidfekbeeaa
open Go.ChangeShapes Go.WideShapes Go.ChangeAt Go.RowKit
set_option linter.unusedVariables false
def zeroE : En := ⟨0, 0, 0, 0, 0, 0, 0, 0, 0⟩
theorem zeroE_ok : zeroE.ok := by
  intro x hx
  simp only [zeroE, En.l, List.mem_cons, List.not_mem_nil, or_false] at hx
  omega
set_option maxRecDepth 100000 in
set_option maxHeartbeats 8000000 in
theorem awake10_any (w : World) : Calls Try.prog 11 #[] w fun e w' => e = .returned (.bool true) ∧ Fr No w w' := by
  have hnew := q_new 3 w (by decide) (by decide)
  have hnt := fun W => note10_any 4 W
  rw [show (4 : Int) % 1000 = 4 from by decide] at hnt
  have hN := fun W => ent_eql (noteE 4) (noteE 4) W
  simp only [decide_true] at hN
  have hG := fun (u v : Operand) (V : World) => ent_guard .eql u v #[.int .i64 16, .int .i64 0, .int .i64 (-1), .int .i64 (-1), .int .i64 (-1), .int .i64 0, .int .i64 0, .int .i64 0, .int .i64 4] #[.int .i64 16, .int .i64 0, .int .i64 (-1), .int .i64 (-1), .int .i64 (-1), .int .i64 0, .int .i64 0, .int .i64 0, .int .i64 4] V
  have hnE : (noteE 4).ok := noteE_ok 4 (by decide) (by decide)
  have hX1 : (quoNew 3).actX 1 0 0 zeroE = 0 := rfl
  have HNEW := Lib.hid hnew
  have HNE := Lib.hid hnE
  have HX1 := Lib.hid hX1
  clear hnew hnE hX1
  go_enter Try.func11, Try.ntmps11
  go_wp2_with fail
  refine HNEW.out.mono ?_
  rintro e w1 ⟨z, lab, pv, rfl, q1, n1, f1⟩
  have Q1 := Lib.hid q1
  have N1 := Lib.hid n1
  have F1 := Lib.hid f1
  clear q1 n1 f1
  go_wp2_with fail
  refine (q_do Q1.out 1 0 0 zeroE zeroE_ok (by omega)).mono ?_
  rintro e w2 ⟨rfl, t2⟩
  rw [HX1.out]
  obtain ⟨f2, lab2, q2, n2, -⟩ := QTo.frNo t2 F1.out N1.out
  clear Q1 N1 F1 t2
  have Q2 := Lib.hid q2
  have N2 := Lib.hid n2
  have F2 := Lib.hid f2
  clear q2 n2 f2
  go_wp2_with fail
  refine (q_flush Q2.out 7 (by omega)).mono ?_
  rintro e w3 ⟨k3, qa, rfl, -, fl3, t3⟩
  obtain ⟨f3, lab3, q3, n3, -⟩ := QTo.frNo t3 F2.out N2.out
  obtain ⟨-, x2, hna, hnext⟩ := awake_plain (n2 := 0) zeroE_ok fl3
  clear Q2 N2 F2 t3 fl3
  have Q3 := Lib.hid q3
  have N3 := Lib.hid n3
  have F3 := Lib.hid f3
  have X2 := Lib.hid x2
  have HNEXT := Lib.hid hnext
  have HNT := Lib.hid hnt
  clear q3 n3 f3 x2 hnext hnt
  go_wp2_with fail
  refine (HNT.out _).mono ?_
  rintro e w4 ⟨rfl, f4⟩
  have q4 := Q3.out.frNo f4
  replace f4 := F3.out.transNo f4
  clear Q3 F3
  have Q4 := Lib.hid q4
  have F4 := Lib.hid f4
  clear q4 f4
  unfold En.v noteE
  go_wp2_with fail
  refine (q_do Q4.out 2 0 0 (noteE 4) HNE.out (by omega)).mono ?_
  rintro e w5 ⟨rfl, t5⟩
  rw [X2.out]
  obtain ⟨f5, lab5, q5, n5, -⟩ := QTo.frNo t5 F4.out N3.out
  clear Q4 N3 F4 t5 X2
  have Q5 := Lib.hid q5
  have N5 := Lib.hid n5
  have F5 := Lib.hid f5
  clear q5 n5 f5
  go_wp2_with fail
  refine (q_flush Q5.out 7 (by omega)).mono ?_
  rintro e w6 ⟨k6, qb, rfl, -, fl6, t6⟩
  obtain ⟨f6, lab6, q6, n6, -⟩ := QTo.frNo t6 F5.out N5.out
  obtain ⟨hl6, hd6, hn6⟩ := HNEXT.out qb k6 fl6
  have hcm := q_Committed q6
  rw [hd6] at hcm
  have hld := fun W (hf : Fr No w6 W) => q_Leader (q6.frNo hf)
  rw [hl6] at hld
  clear Q5 N5 F5 t6 fl6 q6 hl6 hd6 HNEXT n6
  have HCM := Lib.hid hcm
  have HLD := Lib.hid hld
  have F6 := Lib.hid f6
  clear hcm hld f6
  go_wp2_with fail
  refine HCM.out.mono ?_
  rintro e w7 ⟨A, c, rfl, o7, f7⟩
  have hca := o7.cap
  obtain ⟨g, rfl, hgl, -, hgc⟩ := o7.head (by decide)
  have hcw := fun W (hf : Fr No w7 W) => (⟨(hf.cell (p := ⟨g, 0, none⟩) hgl fun h => h).trans (hgc 0 (by decide)), (hf.cell (p := ⟨g, 1, none⟩) hgl fun h => h).trans (hgc 1 (by decide)), (hf.cell (p := ⟨g, 2, none⟩) hgl fun h => h).trans (hgc 2 (by decide)), (hf.cell (p := ⟨g, 3, none⟩) hgl fun h => h).trans (hgc 3 (by decide)), (hf.cell (p := ⟨g, 4, none⟩) hgl fun h => h).trans (hgc 4 (by decide)), (hf.cell (p := ⟨g, 5, none⟩) hgl fun h => h).trans (hgc 5 (by decide)), (hf.cell (p := ⟨g, 6, none⟩) hgl fun h => h).trans (hgc 6 (by decide)), (hf.cell (p := ⟨g, 7, none⟩) hgl fun h => h).trans (hgc 7 (by decide)), (hf.cell (p := ⟨g, 8, none⟩) hgl fun h => h).trans (hgc 8 (by decide))⟩ : W.cell? ⟨g, 0, none⟩ = some (.int .i64 16) ∧ W.cell? ⟨g, 1, none⟩ = some (.int .i64 0) ∧ W.cell? ⟨g, 2, none⟩ = some (.int .i64 (-1)) ∧ W.cell? ⟨g, 3, none⟩ = some (.int .i64 (-1)) ∧ W.cell? ⟨g, 4, none⟩ = some (.int .i64 (-1)) ∧ W.cell? ⟨g, 5, none⟩ = some (.int .i64 0) ∧ W.cell? ⟨g, 6, none⟩ = some (.int .i64 0) ∧ W.cell? ⟨g, 7, none⟩ = some (.int .i64 0) ∧ W.cell? ⟨g, 8, none⟩ = some (.int .i64 4))
  have hnt := HNT.out
  have hlw := fun W (hf : Fr No w7 W) => HLD.out W (f7.transNo hf)
  unfold noteE En.v at hnt hN
  have F7 := Lib.hid (F6.out.transNo f7)
  have hd := hcw w7.drew (Fr.refl _ _).drew
  clear o7 hgc HLD HCM F6 HNT f7 hn6 hna
  have HCW := Lib.hid hcw
  have HLW := Lib.hid hlw
  have HNT := Lib.hid hnt
  clear hcw hlw hnt
  go_wp2_with fail
  go_region_held3 (fun W => W.cell? ⟨g, 0, none⟩ = some (.int .i64 16) ∧ W.cell? ⟨g, 1, none⟩ = some (.int .i64 0) ∧ W.cell? ⟨g, 2, none⟩ = some (.int .i64 (-1)) ∧ W.cell? ⟨g, 3, none⟩ = some (.int .i64 (-1)) ∧ W.cell? ⟨g, 4, none⟩ = some (.int .i64 (-1)) ∧ W.cell? ⟨g, 5, none⟩ = some (.int .i64 0) ∧ W.cell? ⟨g, 6, none⟩ = some (.int .i64 0) ∧ W.cell? ⟨g, 7, none⟩ = some (.int .i64 0) ∧ W.cell? ⟨g, 8, none⟩ = some (.int .i64 4)) (first | exact hd | exact HCW.out _ (by repeat (first | assumption | exact Fr.refl _ _ | refine Fr.alloc ?_ _ | refine Fr.drew ?_ | refine Fr.drewN ?_ _))) (first
    | (go_at_call 28; refine (HLW.out _ (by repeat (first | assumption | exact Fr.refl _ _ | refine Fr.alloc ?_ _ | refine Fr.drew ?_ | refine Fr.drewN ?_ _))).mono ?_; rintro e v1 ⟨rfl, f1'⟩; have F1 : Fr No w7 v1 := Fr.transNo (by repeat (first | assumption | exact Fr.refl _ _ | refine Fr.alloc ?_ _ | refine Fr.drew ?_ | refine Fr.drewN ?_ _)) f1'; clear f1')
    | (go_at_call 25; refine (HNT.out _).mono ?_; rintro e v2 ⟨rfl, f2'⟩; have F2 : Fr No w7 v2 := Fr.transNo (by repeat (first | assumption | exact Fr.refl _ _ | refine Fr.alloc ?_ _ | refine Fr.drew ?_ | refine Fr.drewN ?_ _)) f2'; clear f2'))
  all_goals
    go_wp2_with fail
    go_ret
    exact ⟨rfl, F7.out.transNo (by repeat (first | assumption | exact Fr.refl _ _ | refine Fr.alloc ?_ _ | refine Fr.drew ?_ | refine Fr.drewN ?_ _))⟩
end Go.Proofs.Ytokblidfekbeeaa
/- The quorum's laws: what every round keeps, and one step. -/
namespace Go.Proofs.Ytokblidfekbeeaa
open Go.ChangeShapes Go.WideShapes Go.ChangeAt Go.RowKit
set_option linter.unusedVariables false
theorem step_info : (Try.prog.info? TStep).map (fun i => (i.zero, i.size, i.bytes)) = some (some (.agg #[.int .i64 0, .int .i64 0, .int .i64 0]), 3, 24) := by kernel_rfl
/-- 'l[i:i+1]' of a script. -/
theorem run_step {b off n c k : Nat} (hk : k < n) (hc : n ≤ c) : ∀ w : World, (Instr.slice 32 (.slice (some ⟨b, off, none⟩) n c) (some (.int .i64 (k : Int))) (some (.int .i64 ((k : Int) + 1))) none).run Try.prog w = .ok (.slice (some ⟨b, off + k * 3, none⟩) 1 (c - k)) w := by
  intro w
  have he : Try.prog.elem 32 = TStep := by kernel_rfl
  have ht : Try.prog.underlying 32 = some (.slice TStep) := by kernel_rfl
  obtain ⟨i0, hi0, hz0, hz1, hz2⟩ := info_parts step_info
  rw [run_slice_lh w 32 (some ⟨b, off, none⟩) n c (by rw [he]; exact ht) .i64 .i64 (k : Int) ((k : Int) + 1) (by omega) (by omega) (by omega), he]
  simp [sizeOf, typeInfo, hi0, hz1, sliced]
  rw [if_neg (by omega)]
  unfold Addr.add
  split <;> simp_all
/-- The quorum in the rounds of a law: it is new since w. -/
structure QIn (w : World) (lab : Nat → Option Nat) (z : Nat) (pv : Nat → Nat) (q : Qs) (g : Gh) (N n : Nat) (wr : World) : Prop where
  at_ : QAt wr lab z pv q n
  new : ∀ b j, lab b = some j → w.heap.size ≤ b
  fr : Fr No w wr
  inv : QInv q g
  n_ : q.n = N
section
variable {w w' wr : World} {lab lab' : Nat → Option Nat} {z n m N : Nat} {pv : Nat → Nat} {q q1 : Qs} {F : Nat → Prop} {g : Gh}
theorem QIn.frNo (h : QIn w lab z pv q g N n wr) (hf : Fr No wr w') : QIn w lab z pv q g N n w' := ⟨h.at_.frNo hf, h.new, h.fr.transNo hf, h.inv, h.n_⟩
theorem QIn.more (h : QIn w lab z pv q g N n wr) (hn : n ≤ m) : QIn w lab z pv q g N m wr := ⟨h.at_.more hn, h.new, h.fr, h.inv, h.n_⟩
theorem QIn.start (hN0 : 0 < N) (hN5 : N ≤ 5) (h : QAt wr lab z pv (quoNew N) 0) (hn : ∀ b j, lab b = some j → w.heap.size ≤ b) (hf : Fr No w wr) : QIn w lab z pv (quoNew N) gh0 N 0 wr := ⟨h, hn, hf, QInv.new hN0 hN5, rfl⟩
/-- What one step leaves of it; what is owned apart from it is kept. -/
def StepAt (w : World) (lab : Nat → Option Nat) (z : Nat) (pv : Nat → Nat) (q : Qs) (g : Gh) (a : JAct) (N n : Nat) (wr w' : World) : Prop :=
  ∃ q' lab' g', StepTo q a q' ∧ QIn w lab' z pv q' g' N n w' ∧ Ext g g' ∧ q.done <+: q'.done ∧ (∀ b, b < wr.heap.size → lab' b = lab b) ∧ Fr (fun b => lab b ≠ none) wr w'
theorem q_step (h : QIn w lab z pv q g N n wr) {b off c : Nat} {a : JAct} (hs : StepsAt w (some ⟨b, off, none⟩) [a]) (hsz : n + 4000700000 ≤ 140000000000000) :
    Calls Try.prog 13 #[.pointer (some ⟨z, 0, none⟩), .slice (some ⟨b, off, none⟩) 1 c, .int .i64 (N : Int)] wr fun e w' => e = .returned (.tuple #[]) ∧ StepAt w lab z pv q g a N (n + 4000700000) wr w' := by
  have hp := play_any (c := c) h.at_ h.new h.fr hs (by simpa using hsz)
  rw [h.n_] at hp
  refine hp.mono ?_
  rintro e w' ⟨rfl, q', hpl, ht⟩
  refine ⟨rfl, ?_⟩
  have ht : QTo wr lab z pv q' (n + 4000700000) w' := by simpa using ht
  have hst := hpl.one
  obtain ⟨g', i1, i2, i3⟩ := hst.inv h.inv
  have hfr := (ht.frNo h.fr h.new).1
  obtain ⟨lab', a1, a2, a3⟩ := ht
  refine ⟨q', lab', g', hst, ⟨a1, fun b j hb => ?_, hfr, i1, hst.n.trans h.n_⟩, i2, i3, a2, a3⟩
  rcases Nat.lt_or_ge b wr.heap.size with hl | hl
  · rw [a2 b hl] at hb
    exact h.new b j hb
  · exact Nat.le_trans h.fr.size hl
end
end Go.Proofs.Ytokblidfekbeeaa
/- The quorum's laws: matches. -/
namespace Go.Proofs.Ytokblidfekbeeaa
open Go.ChangeShapes Go.WideShapes Go.ChangeAt Go.RowKit
set_option linter.unusedVariables false
theorem run_toA {P : Program} (t e : TypeId) (ht : P.underlying t = some (.slice e)) (i : TypeInfo) (hi : P.info? e = some i) (A : Option Addr) (hA : A = none ∨ ∃ b off, A = some ⟨b, off, none⟩) (n c k : Nat) (hk : k ≤ c) :
    ∀ w : World, (Instr.slice t (.slice A n c) none (some (.int .i64 (k : Int))) none).run P w = .ok (.slice A k c) w := by
  intro w
  have he : P.elem t = e := by simp [Program.elem, ht]
  rw [run_slice_h w t _ n c (by rw [he]; exact ht) .i64 (k : Int) (by omega) (by omega), he]
  rcases hA with rfl | ⟨b, off, rfl⟩
  · simp [sizeOf, typeInfo, hi, sliced]
  · simp [sizeOf, typeInfo, hi, sliced]
    intro _
    unfold Addr.add
    split <;> simp_all
theorem Ent.take {w : World} {G : Nat → Prop} {A : Option Addr} {n c k : Nat} {es : List Lg} (h : Ent w G (.slice A n c) es) (hk : k ≤ es.length) : Ent w G (.slice A (es.take k).length c) (es.take k) := by
  obtain ⟨A', c', h1, h2, h3, h4, h5⟩ := h
  injection h1 with e1 e2 e3
  subst e1 e2 e3
  have hlk : (es.take k).length = k := by rw [List.length_take]; omega
  refine ⟨_, _, rfl, fun hh => by have := h2 hh; omega, by omega, h4, ?_⟩
  rcases h5 with rfl | ⟨b, off, e1, e2, e3, e4⟩
  · exact .inl (by simp)
  · refine .inr ⟨b, off, e1, e2, e3, fun j hj => ?_⟩
    have hl := logV_len es
    have hd := (logV_take es k).symm
    have hj2 : j < (logV es).length := by rw [hd, List.length_take] at hj; omega
    rw [e4 j hj2]
    simp only [hd, List.getElem_take]
theorem Ent.addr {w : World} {G : Nat → Prop} {A : Option Addr} {n c : Nat} {es : List Lg} (h : Ent w G (.slice A n c) es) (h0 : 0 < es.length) : ∃ b off, A = some ⟨b, off, none⟩ := by
  obtain ⟨A', c', h1, h2, h3, h4, h5⟩ := h
  injection h1 with e1 e2 e3
  subst e1 e2 e3
  rcases h5 with rfl | ⟨b, off, e1, -⟩
  · simp at h0
  · exact ⟨b, off, e1⟩
theorem OwnN.addr0 {w : World} {F : Nat → Prop} {e : TypeId} {size n : Nat} {xs : List Value} {A : Option Addr} {c : Nat} (h : OwnN w F e size (.slice A n c) n xs) : A = none ∨ ∃ b off, A = some ⟨b, off, none⟩ := by
  rcases h.addr with h | ⟨g, h⟩
  · exact .inl h
  · exact .inr ⟨g, 0, h⟩
section
variable {w w' : World} {F G H : Nat → Prop}
set_option maxRecDepth 100000 in
set_option maxHeartbeats 4000000 in
theorem matches_any {A B : Option Addr} {c d : Nat} {xs ys : List Lg} (hA : OwnN w G TLg 10 (.slice A xs.length c) xs.length (logV xs)) (hB : OwnN w H TLg 10 (.slice B ys.length d) ys.length (logV ys))
    (hag : ∀ (i : Nat) (x y : Lg), xs[i]? = some x → ys[i]? = some y → x.term = y.term → xs.take (i + 1) = ys.take (i + 1)) :
    Calls Try.prog 14 #[.slice A xs.length c, .slice B ys.length d] w fun e w' => e = .returned (.bool true) ∧ Fr No w w' := by
  obtain ⟨hM2, hM⟩ := hA.cap
  obtain ⟨hM4, hM3⟩ := hB.cap
  obtain ⟨i0, hi0, hz0, hz1, hz2⟩ := info_parts log_info
  have hEA := Ent.of_own hA
  have hEB := Ent.of_own hB
  have hs1 := fun (k : Nat) (hk : k ≤ c) => run_toA (P := Try.prog) 36 TLg (by kernel_rfl) i0 hi0 A hA.addr0 xs.length c k hk
  have hs2 := fun (k : Nat) (hk : k ≤ d) => run_toA (P := Try.prog) 36 TLg (by kernel_rfl) i0 hi0 B hB.addr0 ys.length d k hk
  have ha := fun i hi => hEA.at_ (i := i) hi
  have hb := fun i hi => hEB.at_ (i := i) hi
  have hsame : ∀ k : Nat, k ≤ xs.length → k ≤ ys.length → xs.take k = ys.take k → ∀ W, Fr No w W → Calls Try.prog 31 #[.slice A k c, .slice B k d] W fun e w' => e = .returned (.bool true) ∧ Fr No W w' := by
    intro k h1 h2 h3 W hf
    have hs := same_logged ((hEA.frNo hf).take h1) ((hEB.frNo hf).take h2)
    rw [List.length_take, List.length_take, Nat.min_eq_left h1, Nat.min_eq_left h2, h3] at hs
    refine hs.mono ?_
    rintro e w' ⟨rfl, hf⟩
    exact ⟨by simp, hf⟩
  unfold maxLen at hM hM3
  clear hA hB hEA hEB
  have HA := Lib.hid ha
  have HB := Lib.hid hb
  have HS1 := Lib.hid hs1
  have HS2 := Lib.hid hs2
  have HSAME := Lib.hid hsame
  have HAG := Lib.hid hag
  clear ha hb hs1 hs2 hsame hag
  go_enter Try.func14, Try.ntmps14
  go_wp2_with fail
  go_loopw [5, 6] (fun kv iv wr => ∃ i : Nat, i ≤ xs.length ∧ i ≤ ys.length ∧ iv = .int .i64 i ∧ (∃ k : Nat, k ≤ i ∧ kv = .int .i64 ((k : Int) - 1) ∧ xs.take k = ys.take k) ∧ Fr No w wr) (fun _ iv _ => xs.length - (intOf iv).toNat)
  case atStart => exact ⟨0, Nat.zero_le _, Nat.zero_le _, rfl, ⟨0, Nat.le_refl _, rfl, by simp⟩, Fr.refl _ _⟩
  case round =>
    obtain ⟨i, hi1, hi2, rfl, ⟨k, hki, rfl, htk⟩, hf⟩ := hrel
    have hkc : k ≤ c := by omega
    have hkd : k ≤ d := by omega
    have hw1 : IntKind.i64.wrap ((k : Int) - 1 + 1) = (k : Int) := by rw [IntWalk.i64_in _ (by omega)]; omega
    have hw2 : IntKind.i64.wrap (k : Int) = (k : Int) := IntWalk.i64_in _ (by omega)
    have q1 := HS1.out k hkc
    have q2 := HS2.out k hkd
    have hsm := fun W hfW => HSAME.out k (by omega) (by omega) htk W (hf.transNo hfW)
    by_cases hx : i < xs.length
    · have b1 : decide (i < xs.length) = true := decide_eq_true hx
      have b2 : decide ((i : Int) < (xs.length : Int)) = true := decide_eq_true (by omega)
      have hx2 : (i : Int) < (xs.length : Int) := by omega
      by_cases hy : i < ys.length
      · have b3 : decide (i < ys.length) = true := decide_eq_true hy
        have b4 : decide ((i : Int) < (ys.length : Int)) = true := decide_eq_true (by omega)
        have hy2 : (i : Int) < (ys.length : Int) := by omega
        obtain ⟨b, off, x, rfl, hxx, hxc⟩ := HA.out i hx
        obtain ⟨b', off', y, rfl, hyy, hyc⟩ := HB.out i hy
        obtain ⟨c0, -⟩ := hxc wr hf
        obtain ⟨d0, -⟩ := hyc wr hf
        by_cases ht : x.term = y.term
        · have g1 : (x.term == y.term) = true := by simpa using ht
          have htk2 := HAG.out i x y hxx hyy ht
          clear hxc hyc hxx hyy htk ht q1 q2 hw1 hw2
          have HF := Lib.hid hf
          have HTK2 := Lib.hid htk2
          have HSM := Lib.hid hsm
          clear hf htk2 hsm
          go_wp2_with fail
          go_quiet (fail)
          go_wp2_with fail
          go_roundw
          case rel => exact ⟨i + 1, by omega, by omega, by go_num, ⟨i + 1, by omega, by congr 1; omega, HTK2.out⟩, HF.out.drewN _⟩
          case measure => simp [intOf]; omega
        · have g1 : (x.term == y.term) = false := by simpa using ht
          clear hxc hyc hxx hyy ht q1 q2 hw1 hw2
          have HF := Lib.hid hf
          have HTK := Lib.hid htk
          have HSM := Lib.hid hsm
          clear hf htk hsm
          go_wp2_with fail
          go_quiet (fail)
          go_wp2_with fail
          go_roundw
          case rel => exact ⟨i + 1, by omega, by omega, by go_num, ⟨k, by omega, rfl, HTK.out⟩, HF.out.drewN _⟩
          case measure => simp [intOf]; omega
      · have b3 : decide (i < ys.length) = false := decide_eq_false hy
        have b4 : decide ((i : Int) < (ys.length : Int)) = false := decide_eq_false (by omega)
        clear htk
        have HF := Lib.hid hf
        have HSM := Lib.hid hsm
        clear hf hsm
        go_wp2_with fail
        go_region_held3 (fun _ => True) (trivial) (first
          | (go_at_call 31; refine (HSM.out _ (by repeat (first | assumption | exact Fr.refl _ _ | refine Fr.alloc ?_ _ | refine Fr.drew ?_ | refine Fr.drewN ?_ _))).mono ?_; rintro e v1 ⟨rfl, f1'⟩; have F1 : Fr No wr v1 := Fr.transNo (by repeat (first | assumption | exact Fr.refl _ _ | refine Fr.alloc ?_ _ | refine Fr.drew ?_ | refine Fr.drewN ?_ _)) f1'; clear f1'))
        all_goals
          go_wp2_with fail
          go_ret
          exact ⟨rfl, HF.out.transNo F1⟩
    · have b1 : decide (i < xs.length) = false := decide_eq_false hx
      have b2 : decide ((i : Int) < (xs.length : Int)) = false := decide_eq_false (by omega)
      clear htk
      have HF := Lib.hid hf
      have HSM := Lib.hid hsm
      clear hf hsm
      go_wp2_with fail
      go_region_held3 (fun _ => True) (trivial) (first
        | (go_at_call 31; refine (HSM.out _ (by repeat (first | assumption | exact Fr.refl _ _ | refine Fr.alloc ?_ _ | refine Fr.drew ?_ | refine Fr.drewN ?_ _))).mono ?_; rintro e v1 ⟨rfl, f1'⟩; have F1 : Fr No wr v1 := Fr.transNo (by repeat (first | assumption | exact Fr.refl _ _ | refine Fr.alloc ?_ _ | refine Fr.drew ?_ | refine Fr.drewN ?_ _)) f1'; clear f1'))
      all_goals
        go_wp2_with fail
        go_ret
        exact ⟨rfl, HF.out.transNo F1⟩
end
end Go.Proofs.Ytokblidfekbeeaa
