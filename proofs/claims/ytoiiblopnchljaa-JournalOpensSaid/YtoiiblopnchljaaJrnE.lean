/-
  The contracts of take and replay of the journal.
-/
import Derived.Test.YtoiiblopnchljaaJrnD
namespace Go.Proofs.Ytoiiblopnchljaa
open Go.ChangeShapes Go.WideShapes Go.ChangeAt Go.RowKit
set_option linter.unusedVariables false

theorem jtake_no (A : Option Addr) (n c : Nat) (l : List UInt8) (w : World) (B : Nat) (hl : l.length = n) (hm : n ≤ maxLen) (hr : Rd w B A (l.map bv)) (h : tkJ l = none) :
    Calls Try.prog 69 #[.slice A n c] w fun e w' => e = .returned (.tuple #[.int .i64 0, .slice none 0 0, .bool false]) ∧ w = w' := by
  have hC := take_any A n c l w B hl hm hr
  unfold tkJ at h
  revert hC h
  generalize takN l = t
  intro h hC
  obtain ⟨tn, tk, te⟩ := t
  simp only at h
  have h1 : te ≠ 0 := by
    intro he
    rw [if_pos he] at h
    cases h
  have b1 : (te == 0) = false := by simp [h1]
  have b2 : (te != 0) = true := by simp [h1]
  clear h h1 hl hm hr
  have HC := Lib.hid hC
  clear hC
  go_enter Try.func69, Try.ntmps69
  go_wp2_with fail
  refine HC.out.mono ?_
  rintro e w1 ⟨rfl, rfl⟩
  go_wp2_with fail
  go_ret3
  exact ⟨rfl, rfl⟩

set_option maxHeartbeats 1000000 in
theorem jtake_yes (A : Option Addr) (n c : Nat) (l : List UInt8) (w : World) (B : Nat) (hA : A = none → n = 0) (hl : l.length = n) (hm : n ≤ maxLen) (hnc : n ≤ c) (hr : Rd w B A (l.map bv)) (x : Int) (q : List UInt8) (h : tkJ l = some (x, q)) :
    Calls Try.prog 69 #[.slice A n c] w fun e w' => ∃ A' c', e = .returned (.tuple #[.int .i64 x, .slice A' q.length c', .bool true]) ∧ (A' = none → q.length = 0) ∧ q.length ≤ c' ∧ Rd w' B A' (q.map bv) ∧ Fr No w w' := by
  obtain ⟨u0, hu0, gz0, gz1, gz2⟩ := info_parts bytes_info
  have hC := take_any A n c l w B hl hm hr
  have hk := takN_k l
  unfold tkJ at h
  revert hC h hk
  generalize takN l = t
  intro h hC hk
  obtain ⟨tn, tk, te⟩ := t
  simp only at h hk
  have h1 : te = 0 := by
    rcases Decidable.em (te = 0) with he | he
    · exact he
    · rw [if_neg he] at h
      cases h
  subst h1
  simp only [if_true, Option.some.injEq, Prod.mk.injEq] at h
  obtain ⟨rfl, rfl⟩ := h
  have hk1 := hk rfl
  rw [hl] at hk1
  obtain ⟨A2, hs2, hn2, hr2⟩ := run_from (P := Try.prog) 52 5 Try.underlying52 u0 hu0 gz1 A n c tk hk1 hA
  have hr3 := hr2 w B (l.map bv) (by rw [List.length_map, hl]; exact hnc) hr
  rw [← List.map_drop] at hr3
  have hql : (l.drop tk).length = n - tk := by rw [List.length_drop, hl]
  clear hk hr2 hr hl hA
  unfold maxLen at hm
  have HC := Lib.hid hC
  have HR3 := Lib.hid hr3
  have HQL := Lib.hid hql
  have HN2 := Lib.hid hn2
  clear hC hr3 hql hn2
  go_enter Try.func69, Try.ntmps69
  go_wp2_with fail
  refine HC.out.mono ?_
  rintro e w1 ⟨rfl, rfl⟩
  go_wp2_with fail
  go_region
  all_goals
    go_wp2_with fail
    go_ret3
    refine ⟨A2, c - tk, by rw [HQL.out]; rfl, by rw [HQL.out]; exact HN2.out, by rw [HQL.out]; omega, HR3.out, (Fr.refl _ _).drew⟩

theorem setTermS_no {s : Js} {t v : Int} (h : setTermX s t v ≠ 0) : setTermS s t v = s := by unfold setTermS; rw [if_neg h]
theorem addS_no {s : Js} {t : Int} {e : En} (h : addX s t e ≠ 0) : addS s t e = s := by unfold addS; rw [if_neg h]
theorem cutS_no {s : Js} {n : Int} (h : cutX s n ≠ 0) : cutS s n = s := by unfold cutS; rw [if_neg h]

/-- What replay leaves. -/
def RepTo (w : World) (F : Nat → Prop) (j d : Nat) (xs : List UInt8) (k : Nat) (s : Js) (R : Option Js) (e : Ending) (w' : World) : Prop := e = .returned (.bool R.isSome) ∧ JTo w F j d xs k (R.getD s) w'

set_option maxRecDepth 100000 in
set_option maxHeartbeats 4000000 in
theorem j_replay {w : World} {F : Nat → Prop} {j d : Nat} {xs : List UInt8} {k : Nat} {s : Js} (h : JAt w F j d xs k s) (hlen : s.log.length ≤ 4096) (A : Option Addr) (m c : Nat) (r : List UInt8) (B : Nat) (hA : A = none → m = 0) (hl : r.length = m) (hm : m ≤ maxLen) (hnc : m ≤ c) (hr : Rd w B A (r.map bv)) (hB : B ≤ w.heap.size) :
    Calls Try.prog 41 #[.pointer (some ⟨j, 0, none⟩), .slice A m c] w (RepTo w F j d xs k s (replayJ s r)) := by
  obtain ⟨R, hR⟩ : ∃ R, R = replayJ s r := ⟨_, rfl⟩
  rw [← hR]
  unfold replayJ at hR
  have hno := fun W (hf : Fr No w W) => h.still hf
  have hM := hm
  unfold maxLen at hm
  cases ht1 : tkJ r with
  | none =>
    rw [ht1] at hR
    subst hR
    have hT := jtake_no A m c r w B hl hM hr ht1
    clear ht1 hr
    have HT := Lib.hid hT
    have HNO := Lib.hid hno
    clear hT hno
    go_enter Try.func41, Try.ntmps41
    go_wp2_with fail
    refine HT.out.mono ?_
    rintro e w1 ⟨rfl, rfl⟩
    go_wp2_with fail
    go_ret
    exact ⟨ret_bool rfl, HNO.out _ (Fr.refl _ _)⟩
  | some kp =>
    obtain ⟨kd, p⟩ := kp
    rw [ht1] at hR
    have hT := jtake_yes A m c r w B hA hl hM hnc hr kd p ht1
    have hpl : p.length ≤ m := by
      unfold tkJ at ht1
      split at ht1
      · simp only [Option.some.injEq, Prod.mk.injEq] at ht1
        rw [← ht1.2, List.length_drop]
        omega
      · cases ht1
    simp only at hR
    clear ht1 hr hA hnc hl
    cases ht2 : tkJ p with
    | none =>
      rw [ht2] at hR
      subst hR
      have HT := Lib.hid hT
      have HNO := Lib.hid hno
      clear hT hno
      go_enter Try.func41, Try.ntmps41
      go_wp2_with fail
      refine HT.out.mono ?_
      rintro e w1 ⟨A1, c1, rfl, n1, k1, r1, f1⟩
      have hT2 := jtake_no A1 p.length c1 p w1 B rfl (by unfold maxLen; omega) r1 ht2
      clear HT n1 k1 r1
      have HT2 := Lib.hid hT2
      have F1 := Lib.hid f1
      clear hT2 f1
      go_wp2_with fail
      refine HT2.out.mono ?_
      rintro e w2 ⟨rfl, rfl⟩
      go_wp2_with fail
      go_ret
      exact ⟨ret_bool rfl, HNO.out _ F1.out⟩
    | some nq =>
      obtain ⟨n, q⟩ := nq
      rw [ht2] at hR
      simp only at hR
      have hql : q.length ≤ p.length := by
        unfold tkJ at ht2
        split at ht2
        · simp only [Option.some.injEq, Prod.mk.injEq] at ht2
          rw [← ht2.2, List.length_drop]
          omega
        · cases ht2
      have HT := Lib.hid hT
      have HNO := Lib.hid hno
      have HR := Lib.hid hR
      clear hT hno hR
      go_enter Try.func41, Try.ntmps41
      go_wp2_with fail
      refine HT.out.mono ?_
      rintro e w1 ⟨A1, c1, rfl, n1, k1, r1, f1⟩
      have hT2 := jtake_yes A1 p.length c1 p w1 B n1 rfl (by unfold maxLen; omega) k1 r1 n q ht2
      clear HT n1 k1 r1 ht2
      have HT2 := Lib.hid hT2
      have F1 := Lib.hid f1
      clear hT2 f1
      go_wp2_with fail
      refine HT2.out.mono ?_
      rintro e w2 ⟨A2, c2, rfl, n2, k2, r2, f2⟩
      replace F1 := Lib.hid (F1.out.transNo f2)
      have hR := HR.out
      have hBw := Nat.le_trans hB F1.out.size
      unfold replayB at hR
      clear HT2 f2 HR
      have haft := fun w3 s' (hj : JTo w2 F j d xs k s' w3) => JTo.after F1.out hj
      by_cases e1 : kd = 1
      · subst e1
        rw [if_pos rfl] at hR
        cases ht3 : tkJ q with
        | none =>
          rw [ht3] at hR
          subst hR
          have hT3 := jtake_no A2 q.length c2 q w2 B rfl (by unfold maxLen; omega) r2 ht3
          clear n2 k2 r2 haft h
          have HT3 := Lib.hid hT3
          clear hT3
          go_wp2_with fail
          refine HT3.out.mono ?_
          rintro e w3 ⟨rfl, rfl⟩
          go_wp2_with fail
          go_ret
          exact ⟨ret_bool rfl, HNO.out _ F1.out⟩
        | some vq =>
          obtain ⟨v, q2⟩ := vq
          rw [ht3] at hR
          simp only at hR
          have hT3 := jtake_yes A2 q.length c2 q w2 B n2 rfl (by unfold maxLen; omega) k2 r2 v q2 ht3
          clear ht3 n2 k2 r2
          have hset := fun w3 (hf : Fr No w w3) => j_setTerm (h.frNo hf) n v
          clear h haft
          by_cases e2 : q2 = []
          · subst e2
            simp only [true_and] at hR
            have hsn := fun hx => setTermS_no (s := s) (t := n) (v := v) hx
            generalize hXX : setTermX s n v = X at *
            generalize hYY : setTermS s n v = S at *
            clear hXX hYY
            have HT3 := Lib.hid hT3
            have HSET := Lib.hid hset
            have HR := Lib.hid hR
            have HSN := Lib.hid hsn
            clear hT3 hset hR hsn
            go_wp2_with fail
            refine HT3.out.mono ?_
            rintro e w3 ⟨A3, c3, rfl, n3, k3, r3, f3⟩
            replace F1 := Lib.hid (F1.out.transNo f3)
            clear n3 k3 r3 f3 HT3
            go_wp2_with fail
            refine (HSET.out _ F1.out).mono ?_
            rintro e w4 ⟨rfl, j4⟩
            have J4 := Lib.hid (JTo.after F1.out j4)
            clear j4
            have hR := HR.out
            clear HR
            by_cases hx : X = 0
            · rw [if_pos hx] at hR
              subst hR hx
              go_wp2_with fail
              go_ret
              exact ⟨ret_bool rfl, J4.out⟩
            · rw [if_neg hx] at hR
              subst hR
              have b9 : (X == 0) = false := by simpa using hx
              have HXX := Lib.hid hx
              clear hx
              go_wp2_with fail
              go_ret
              refine ⟨ret_bool rfl, ?_⟩
              have hx := HXX.out
              have := J4.out
              rw [HSN.out hx] at this
              exact this
          · rw [if_neg (fun hh => e2 hh.1)] at hR
            subst hR
            have hq2 : (q2.length == 0) = false := by simpa using e2
            have hq3 : ((q2.length : Int) == 0) = false := by simpa using e2
            clear hset
            have HT3 := Lib.hid hT3
            have E2 := Lib.hid e2
            clear hT3 e2
            go_wp2_with fail
            refine HT3.out.mono ?_
            rintro e w3 ⟨A3, c3, rfl, n3, k3, r3, f3⟩
            replace F1 := Lib.hid (F1.out.transNo f3)
            clear n3 k3 r3 f3 HT3
            go_wp2_with fail
            go_ret
            exact ⟨ret_bool rfl, HNO.out _ F1.out⟩
      · have t1 : (kd == 1) = false := by simpa using e1
        rw [if_neg e1] at hR
        by_cases e2 : kd = 2
        · subst e2
          rw [if_pos rfl] at hR
          have hT3 := read_any A2 q.length c2 q w2 B n2 rfl (by unfold maxLen; omega) k2 r2 hBw
          clear n2 k2 r2 haft e1
          have hadd := fun w3 (hf : Fr No w w3) (en : En) => j_add (h.frNo hf) hlen n en
          clear h
          generalize hTT : readE q = T at *
          clear hTT
          obtain ⟨en, tk, tx⟩ := T
          simp only at hR
          by_cases e3 : tx = 0
          · subst e3
            by_cases e4 : tk = q.length
            · subst e4
              simp only [true_and] at hR
              have hsn := fun hx => addS_no (s := s) (t := n) (e := en) hx
              replace hadd := fun w3 (hf : Fr No w w3) => hadd w3 hf en
              generalize hXX : addX s n en = X at *
              generalize hYY : addS s n en = S at *
              clear hXX hYY
              unfold RdTo at hT3
              simp only at hT3
              obtain ⟨k0, tick, te, ce, ot, ep, fr, un, n0⟩ := en
              unfold En.v at hT3 hadd
              have HT3 := Lib.hid hT3
              have HADD := Lib.hid hadd
              have HR := Lib.hid hR
              have HSN := Lib.hid hsn
              clear hT3 hadd hR hsn
              go_wp2_with fail
              refine HT3.out.mono ?_
              rintro e w3 ⟨rfl, f3⟩
              replace F1 := Lib.hid ((F1.out.transNo f3).alloc (.cells #[.int .i64 k0, .int .i64 tick, .int .i64 te, .int .i64 ce, .int .i64 ot, .int .i64 ep, .int .i64 fr, .int .i64 un, .int .i64 n0] TEnt))
              clear f3 HT3
              go_wp2_with fail
              refine (HADD.out _ F1.out).mono ?_
              rintro e w4 ⟨rfl, j4⟩
              have J4 := Lib.hid (JTo.after F1.out j4)
              clear j4
              have hR := HR.out
              clear HR
              by_cases hx : X = 0
              · rw [if_pos hx] at hR
                subst hR hx
                go_wp2_with fail
                go_ret
                exact ⟨ret_bool rfl, J4.out⟩
              · rw [if_neg hx] at hR
                subst hR
                have b9 : (X == 0) = false := by simpa using hx
                have HXX := Lib.hid hx
                clear hx
                go_wp2_with fail
                go_ret
                refine ⟨ret_bool rfl, ?_⟩
                have hx := HXX.out
                have := J4.out
                rw [HSN.out hx] at this
                exact this
            · rw [if_neg (fun hh => e4 hh.2.1)] at hR
              subst hR
              have t4 : ((tk : Int) == (q.length : Int)) = false := by simp; omega
              clear hadd
              unfold RdTo at hT3
              simp only at hT3
              obtain ⟨k0, tick, te, ce, ot, ep, fr, un, n0⟩ := en
              unfold En.v at hT3
              have HT3 := Lib.hid hT3
              have E4 := Lib.hid e4
              clear hT3 e4
              go_wp2_with fail
              refine HT3.out.mono ?_
              rintro e w3 ⟨rfl, f3⟩
              replace F1 := Lib.hid ((F1.out.transNo f3).alloc (.cells #[.int .i64 k0, .int .i64 tick, .int .i64 te, .int .i64 ce, .int .i64 ot, .int .i64 ep, .int .i64 fr, .int .i64 un, .int .i64 n0] TEnt))
              clear f3 HT3
              go_wp2_with fail
              go_ret
              exact ⟨ret_bool rfl, HNO.out _ F1.out⟩
          · rw [if_neg (fun hh => e3 hh.1)] at hR
            subst hR
            have t4 : (tx == 0) = false := by simpa using e3
            clear hadd
            unfold RdTo at hT3
            simp only at hT3
            obtain ⟨k0, tick, te, ce, ot, ep, fr, un, n0⟩ := en
            unfold En.v at hT3
            have HT3 := Lib.hid hT3
            have E3 := Lib.hid e3
            clear hT3 e3
            go_wp2_with fail
            refine HT3.out.mono ?_
            rintro e w3 ⟨rfl, f3⟩
            replace F1 := Lib.hid ((F1.out.transNo f3).alloc (.cells #[.int .i64 k0, .int .i64 tick, .int .i64 te, .int .i64 ce, .int .i64 ot, .int .i64 ep, .int .i64 fr, .int .i64 un, .int .i64 n0] TEnt))
            clear f3 HT3
            go_wp2_with fail
            go_ret
            exact ⟨ret_bool rfl, HNO.out _ F1.out⟩
        · have t2 : (kd == 2) = false := by simpa using e2
          rw [if_neg e2] at hR
          by_cases e3 : kd = 3
          · subst e3
            rw [if_pos rfl] at hR
            clear n2 k2 r2 haft e1 e2
            have hcut := fun w3 (hf : Fr No w w3) => j_cut (h.frNo hf) n
            clear h
            by_cases e4 : q = []
            · subst e4
              simp only [true_and] at hR
              have hsn := fun hx => cutS_no (s := s) (n := n) hx
              generalize hXX : cutX s n = X at *
              generalize hYY : cutS s n = S at *
              clear hXX hYY
              have HCUT := Lib.hid hcut
              have HR := Lib.hid hR
              have HSN := Lib.hid hsn
              clear hcut hR hsn
              go_wp2_with fail
              refine (HCUT.out _ F1.out).mono ?_
              rintro e w4 ⟨rfl, j4⟩
              have J4 := Lib.hid (JTo.after F1.out j4)
              clear j4
              have hR := HR.out
              clear HR
              by_cases hx : X = 0
              · rw [if_pos hx] at hR
                subst hR hx
                go_wp2_with fail
                go_ret
                exact ⟨ret_bool rfl, J4.out⟩
              · rw [if_neg hx] at hR
                subst hR
                have b9 : (X == 0) = false := by simpa using hx
                have HXX := Lib.hid hx
                clear hx
                go_wp2_with fail
                go_ret
                refine ⟨ret_bool rfl, ?_⟩
                have hx := HXX.out
                have := J4.out
                rw [HSN.out hx] at this
                exact this
            · rw [if_neg (fun hh => e4 hh.1)] at hR
              subst hR
              have hq3 : ((q.length : Int) == 0) = false := by simpa using e4
              clear hcut
              have E4 := Lib.hid e4
              clear e4
              go_wp2_with fail
              go_ret
              exact ⟨ret_bool rfl, HNO.out _ F1.out⟩
          · have t3 : (kd == 3) = false := by simpa using e3
            rw [if_neg e3] at hR
            subst hR
            clear n2 k2 r2 haft h
            go_wp2_with fail
            go_ret
            exact ⟨ret_bool rfl, HNO.out _ F1.out⟩
end Go.Proofs.Ytoiiblopnchljaa
