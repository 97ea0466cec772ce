/-
  The contracts of ints, write, SetTerm, Append, Cut, Sync and Bytes of the journal.
-/
import Derived.Test.YtneeajegegmigaaJrnB
import Derived.Test.YtneeajegegmigaaFrmT
import Derived.Deep.RegionHeld3
namespace Go.Proofs.Ytneeajegegmigaa
open Go.ChangeShapes Go.WideShapes Go.ChangeAt Go.RowKit
set_option linter.unusedVariables false

theorem JTo.after {w w1 w' : World} {F : Nat → Prop} {j d : Nat} {xs : List UInt8} {k : Nat} {s : Js} (hf : Fr No w w1) (h : JTo w1 F j d xs k s w') : JTo w F j d xs k s w' := by
  obtain ⟨F', h1, h2, h3⟩ := h
  exact ⟨F', h1, fun i hi => (h2 i hi).imp id (Nat.le_trans hf.size), (hf.mono (G := F) fun _ hi => hi.elim).trans h3 fun i hi => .inl hi⟩

set_option maxHeartbeats 1000000 in
theorem jints_any (A0 : Option Addr) (m c0 : Nat) (q : List Int) (w : World) (B0 : Nat) (hA0 : A0 = none → m = 0) (hq : q.length = m) (hr0 : Rd w B0 A0 (q.map iv)) (hB0 : B0 ≤ w.heap.size) (hb : ∀ x ∈ q, -9223372036854775808 ≤ x ∧ x ≤ 9223372036854775807) (hsz : m ≤ 1000) :
    Calls Try.prog 56 #[.slice A0 m c0] w fun e w' => ∃ A' c', e = .returned (.slice A' (intsF q).length c') ∧ Own w' (fun i => w.heap.size ≤ i) 5 (.slice A' (intsF q).length c') ((intsF q).map bv) ∧ Fr No w w' := by
  have HA0 := Lib.hid hA0
  have HQ := Lib.hid hq
  have HR0 := Lib.hid hr0
  have HB := Lib.hid hb
  clear hA0 hq hr0 hb
  go_enter Try.func56, Try.ntmps56
  go_wp2_with fail
  go_loopw [3, 8] (fun o i wr => ∃ (A' : Option Addr) (c' k : Nat) (p : List UInt8), k ≤ m ∧ i = .int .i64 k ∧ p = intsF (q.take k) ∧ p.length ≤ 10 * k ∧ o = .slice A' p.length c' ∧ Own wr (fun i => w.heap.size ≤ i) 5 (.slice A' p.length c') (p.map bv) ∧ Fr No w wr) (fun _ i _ => m - (intOf i).toNat)
  case atStart => exact ⟨none, 0, 0, [], Nat.zero_le _, rfl, by simp [intsF], by simp, rfl, Own.nil _ _ _, Fr.refl _ _⟩
  case round =>
    obtain ⟨A', c', k, p, hk, rfl, hp, hpl, rfl, ho, hf⟩ := hrel
    have HP := Lib.hid hp
    have O3 := Lib.hid ho
    have F3 := Lib.hid hf
    have hs3 : w.heap.size ≤ wr.heap.size := hf.size
    clear hp ho hf
    by_cases hlt : k < m
    · obtain ⟨b, off, rfl, _, hc⟩ := HR0.out.at_ (by rw [List.length_map, HQ.out]; omega)
      have hkl : k < q.length := by rw [HQ.out]; exact hlt
      have hck := HR0.out.frNo F3.out hB0 |>.at_ (by rw [List.length_map, HQ.out]; omega)
      obtain ⟨b', off', hbe, _, hc'⟩ := hck
      injection hbe with hbe
      injection hbe with hb1 hb2
      subst hb1 hb2
      have hck := hc' k (by rw [List.length_map]; exact hkl)
      simp only [List.getElem_map] at hck
      have HS := Lib.hid (List.take_succ_eq_append_getElem hkl)
      have HX := Lib.hid (HB.out q[k] (List.getElem_mem hkl))
      have hen1 := encN_len10 _ (codeN_lt q[k] HX.out.1 HX.out.2)
      generalize q[k] = x at *
      clear hc hc'
      go_wp2_with fail
      refine (int_any A' p.length c' x p _ _ O3.out.len.2 rfl O3.out.rd (Nat.le_refl _) HX.out.1 HX.out.2 (by omega)).mono ?_
      rintro e w4 ⟨A4, c4, rfl, o4, f4⟩
      have O4 := Lib.hid (o4.mono (G := fun i => w.heap.size ≤ i) fun i hi => by omega)
      have F4 := Lib.hid (F3.out.transNo f4)
      clear o4 f4
      go_wp2_with fail
      go_roundw
      case rel =>
        refine ⟨A4, c4, k + 1, p ++ encN (codeN x), by omega, by go_num, by rw [HS.out, intsF_snoc, HP.out], by rw [List.length_append]; omega, ?_, ?_, F4.out⟩
        · rw [List.length_append]
        · rw [List.length_append]; exact O4.out
      case measure => simp [intOf]; omega
    · have hpe : p = intsF q := by rw [HP.out, List.take_of_length_le (by rw [HQ.out]; omega)]
      subst hpe
      go_wp2_with fail
      go_ret
      exact ⟨A', c', rfl, O3.out, F3.out⟩

set_option maxHeartbeats 2000000 in
theorem j_write {w : World} {F : Nat → Prop} {j d : Nat} {xs : List UInt8} {k : Nat} {s : Js} (h : JAt w F j d xs k s) (A : Option Addr) (m c : Nat) (r : List UInt8) (B : Nat) (hA : A = none → m = 0) (hr : Rd w B A (r.map bv)) (hm : r.length = m) (hB : B ≤ w.heap.size) (hm2 : m ≤ 65536) (hsz : xs.length + 18 + m ≤ 140737488355328) :
    Calls Try.prog 55 #[.pointer (some ⟨j, 0, none⟩), .slice A m c] w fun e w' => e = .returned (.tuple #[]) ∧ JTo w F j d (xs ++ putN 8 r) k s w' := by
  obtain ⟨A1, c1, Fd, h1, h2, h3, h4, h5, h6, h7, h8, d0, d1, d2, d3, hn⟩ := h.open_
  have hjl := h1.lt
  have hpl := putN_lenP 8 r (by omega)
  have hput := fun V (hf : Fr No w V) => put_short none 0 0 8 A m c [] r V B (fun _ => rfl) rfl (.inl rfl) hA hm (hr.frNo hf hB) (Nat.le_trans hB hf.size) (by omega) hm2
  simp only [List.nil_append] at hput
  have hdsk := fun V (hf : Fr No w V) A2 c2 B2 (h : Own V (fun i => B2 ≤ i) 5 (.slice A2 (putN 8 r).length c2) ((putN 8 r).map bv)) => disk_append V Fd d xs k (h4.frNo hf) A2 (putN 8 r).length c2 (putN 8 r) V.heap.size h.len.2 h.rd rfl (by omega)
  have hfin := fun V V' (hf : Fr No w V) (hd : DiskTo V Fd d (xs ++ putN 8 r) k V') => JAt.disk (h1.fr hf (fun h => h)) h2 (h3.frNo hf) h5 h6 h7 (fun i hi => Nat.lt_of_lt_of_le (h8 i hi) hf.size) hd
  have hcell := fun V V' (hf : Fr No w V) (hd : DiskTo V Fd d (xs ++ putN 8 r) k V') => (((h1.fr hf (fun h => h)).fr (let ⟨_, _, _, g⟩ := hd; g : Fr Fd V V') h6).cell 0 : V'.cell? ⟨j, 0, none⟩ = some (.pointer (some ⟨d, 0, none⟩)))
  have hcel0 := fun V (hf : Fr No w V) => ((h1.fr hf (fun h => h)).cell 0 : V.cell? ⟨j, 0, none⟩ = some (.pointer (some ⟨d, 0, none⟩)))
  clear h h1 h2 h3 h4 h5 h6 h7 h8 hn d1 d2 d3
  generalize putN 8 r = R at *
  have HPUT := Lib.hid hput
  have HDSK := Lib.hid hdsk
  have HFIN := Lib.hid hfin
  have HCELL := Lib.hid hcell
  have HCEL0 := Lib.hid hcel0
  clear hput hdsk hfin hcell hcel0
  go_enter Try.func55, Try.ntmps55
  go_wp2_with fail
  go_region_held3 (fun V => V.cell? ⟨j, 0, none⟩ = some (.pointer (some ⟨d, 0, none⟩))) (first | exact q2 | exact q1 | exact d0) (first
    | (go_at_call 63; refine (HPUT.out _ (Fr.refl No w).drew).mono ?_; rintro e w5 ⟨A5, c5, rfl, o5, f5⟩; have FF := Lib.hid ((Fr.refl No w).drew.transNo f5); have q1 := HCEL0.out _ FF.out; have O5 := Lib.hid o5; clear o5 f5)
    | (go_at_call 62; refine (HDSK.out _ FF.out _ _ _ O5.out).mono ?_; rintro e w6 ⟨rfl, d6⟩; have q2 := HCELL.out _ _ FF.out d6; have D6 := Lib.hid (JTo.after FF.out (HFIN.out _ _ FF.out d6)); clear d6))
  go_wp2_with fail
  go_end0
  exact ⟨rfl, D6.out⟩

theorem j_sync {w : World} {F : Nat → Prop} {j d : Nat} {xs : List UInt8} {k : Nat} {s : Js} (h : JAt w F j d xs k s) :
    Calls Try.prog 46 #[.pointer (some ⟨j, 0, none⟩)] w fun e w' => e = .returned (.tuple #[]) ∧ JTo w F j d xs xs.length s w' := by
  obtain ⟨A1, c1, Fd, h1, h2, h3, h4, h5, h6, h7, h8, d0, d1, d2, d3, hn⟩ := h.open_
  have hfin := fun V' (hd : DiskTo w Fd d xs xs.length V') => JAt.disk h1 h2 h3 h5 h6 h7 h8 hd
  have hsy := disk_sync w Fd d xs k h4
  clear h h1 h2 h3 h4 h5 h6 h7 h8 hn d1 d2 d3
  have HFIN := Lib.hid hfin
  have HSY := Lib.hid hsy
  clear hfin hsy
  go_enter Try.func46, Try.ntmps46
  go_wp2_with fail
  refine HSY.out.mono ?_
  rintro e w1 ⟨rfl, d1⟩
  have D1 := Lib.hid (HFIN.out _ d1)
  clear d1
  go_wp2_with fail
  go_end0
  exact ⟨rfl, D1.out⟩
theorem setX_bd {s : Js} {t v : Int} (h : setTermX s t v = 0) : 0 ≤ t ∧ t ≤ 1073741824 ∧ -1 ≤ v ∧ v < 5 := by
  unfold setTermX at h
  by_cases hc : t < 0 ∨ 1073741824 < t ∨ v < -1 ∨ 5 ≤ v
  · rw [if_pos hc] at h
    exact absurd h (by decide)
  · omega
theorem addX_bd {s : Js} {t : Int} {e : En} (h : addX s t e = 0) : 1 ≤ t ∧ t ≤ 1073741824 ∧ shapeB e = true ∧ t ≤ s.term ∧ termAt s.log ((s.log.length : Int) - 1) ≤ t ∧ s.log.length < 4096 := by
  unfold addX at h
  by_cases hc : t < 1 ∨ 1073741824 < t ∨ shapeB e = false
  · rw [if_pos hc] at h
    exact absurd h (by decide)
  · rw [if_neg hc] at h
    by_cases hc2 : s.term < t ∨ t < termAt s.log ((s.log.length : Int) - 1)
    · rw [if_pos hc2] at h
      exact absurd h (by decide)
    · rw [if_neg hc2] at h
      by_cases hc3 : 4096 ≤ s.log.length
      · rw [if_pos hc3] at h
        exact absurd h (by decide)
      · have hs : shapeB e = true := by
          cases hq : shapeB e
          · exact absurd (Or.inr (Or.inr hq)) hc
          · rfl
        exact ⟨by omega, by omega, hs, by omega, by omega, by omega⟩
theorem cutX_bd {s : Js} {n : Int} (h : cutX s n = 0) : 0 ≤ n ∧ n ≤ s.log.length := by
  unfold cutX at h
  by_cases hc : n < 0 ∨ (s.log.length : Int) < n
  · rw [if_pos hc] at h
    exact absurd h (by decide)
  · omega

set_option maxHeartbeats 2000000 in
theorem j_SetTerm {w : World} {F : Nat → Prop} {j d : Nat} {xs : List UInt8} {k : Nat} {s : Js} (h : JAt w F j d xs k s) (t v : Int) (hsz : xs.length + 100 ≤ 140737488355328) :
    Calls Try.prog 49 #[.pointer (some ⟨j, 0, none⟩), .int .i64 t, .int .i64 v] w fun e w' => e = .returned (.int .i64 (setTermX s t v)) ∧ JTo w F j d (if setTermX s t v = 0 then xs ++ putN 8 (recT t v) else xs) k (setTermS s t v) w' := by
  have hset := j_setTerm h t v
  have hbd := fun hx => setX_bd (s := s) (t := t) (v := v) hx
  revert hset hbd
  generalize setTermX s t v = X
  generalize setTermS s t v = S
  intro hset hbd
  clear h
  obtain ⟨Y, hY⟩ : ∃ Y, Y = if X = 0 then xs ++ putN 8 (recT t v) else xs := ⟨_, rfl⟩
  rw [← hY]
  have HSET := Lib.hid hset
  have HY := Lib.hid hY
  clear hset hY
  go_enter Try.func49, Try.ntmps49
  go_wp2_with fail
  refine HSET.out.mono ?_
  rintro e w1 ⟨rfl, j1⟩
  clear HSET
  by_cases hx : X = 0
  · subst hx
    have hb := hbd rfl
    obtain ⟨F1, a1, i1, f1⟩ := j1
    have hq : ∀ x ∈ [(1 : Int), t, v], -9223372036854775808 ≤ x ∧ x ≤ 9223372036854775807 := by
      intro x hx
      simp at hx
      omega
    have hrl := intsF_len _ hq
    simp only [List.length_cons, List.length_nil] at hrl
    clear hbd
    have A1 := Lib.hid a1
    have I1 := Lib.hid i1
    have F1 := Lib.hid f1
    have HQ := Lib.hid hq
    clear a1 i1 f1 hq
    have hy : Y = xs ++ putN 8 (intsF [1, t, v]) := by rw [HY.out, if_pos rfl]; rfl
    clear HY
    have HY := Lib.hid hy
    clear hy
    go_wp2_with fail
    refine (jints_any (some ⟨w1.heap.size, 0, none⟩) 3 3 [1, t, v] _ (w1.heap.size + 1) (fun h => by cases h) rfl (Rd.new w1 [.int .i64 1, .int .i64 t, .int .i64 v] 3 rfl) (by simp) HQ.out (by omega)).mono ?_
    rintro e w2 ⟨A2, c2, rfl, o2, f2⟩
    have F2 := Lib.hid ((fr_alloc w1 (.cells #[.int .i64 1, .int .i64 t, .int .i64 v] 3)).transNo f2)
    have O2 := Lib.hid o2
    clear o2 f2
    go_wp2_with fail
    refine (j_write (A1.out.frNo F2.out) A2 _ c2 (intsF [1, t, v]) w2.heap.size O2.out.len.2 O2.out.rd rfl (Nat.le_refl _) (by omega) (by omega)).mono ?_
    rintro e w3 ⟨rfl, j3⟩
    have J3 := Lib.hid (JTo.after F2.out j3)
    clear j3
    go_wp2_with fail
    go_ret
    refine ⟨rfl, ?_⟩
    rw [HY.out]
    obtain ⟨F', g1, g2, g3⟩ := J3.out
    exact ⟨F', g1, fun i hi => (g2 i hi).elim (fun h => I1.out i h) (fun h => .inr (Nat.le_trans F1.out.size h)), F1.out.trans g3 I1.out⟩
  · have b1 : (X == 0) = false := by simpa using hx
    have b2 : (X != 0) = true := by simpa using hx
    have hy : Y = xs := by rw [HY.out, if_neg hx]
    clear hbd HY
    have J1 := Lib.hid j1
    have HX := Lib.hid hx
    have HY := Lib.hid hy
    clear j1 hx hy
    go_wp2_with fail
    go_ret
    exact ⟨rfl, by rw [HY.out]; exact J1.out⟩

set_option maxHeartbeats 2000000 in
theorem j_Cut {w : World} {F : Nat → Prop} {j d : Nat} {xs : List UInt8} {k : Nat} {s : Js} (h : JAt w F j d xs k s) (n : Int) (hlen : s.log.length ≤ 4096) (hsz : xs.length + 100 ≤ 140737488355328) :
    Calls Try.prog 61 #[.pointer (some ⟨j, 0, none⟩), .int .i64 n] w fun e w' => e = .returned (.int .i64 (cutX s n)) ∧ JTo w F j d (if cutX s n = 0 then xs ++ putN 8 (recC n) else xs) k (cutS s n) w' := by
  have hset := j_cut h n
  have hbd := fun hx => cutX_bd (s := s) (n := n) hx
  revert hset hbd
  generalize cutX s n = X
  generalize cutS s n = S
  intro hset hbd
  clear h
  obtain ⟨Y, hY⟩ : ∃ Y, Y = if X = 0 then xs ++ putN 8 (recC n) else xs := ⟨_, rfl⟩
  rw [← hY]
  have HSET := Lib.hid hset
  have HY := Lib.hid hY
  clear hset hY
  go_enter Try.func61, Try.ntmps61
  go_wp2_with fail
  refine HSET.out.mono ?_
  rintro e w1 ⟨rfl, j1⟩
  clear HSET
  by_cases hx : X = 0
  · subst hx
    have hb := hbd rfl
    obtain ⟨F1, a1, i1, f1⟩ := j1
    have hq : ∀ x ∈ [(3 : Int), n], -9223372036854775808 ≤ x ∧ x ≤ 9223372036854775807 := by
      intro x hx
      simp at hx
      omega
    have hrl := intsF_len _ hq
    simp only [List.length_cons, List.length_nil] at hrl
    clear hbd
    have A1 := Lib.hid a1
    have I1 := Lib.hid i1
    have F1 := Lib.hid f1
    have HQ := Lib.hid hq
    clear a1 i1 f1 hq
    have hy : Y = xs ++ putN 8 (intsF [3, n]) := by rw [HY.out, if_pos rfl]; rfl
    clear HY
    have HY := Lib.hid hy
    clear hy
    go_wp2_with fail
    refine (jints_any (some ⟨w1.heap.size, 0, none⟩) 2 2 [3, n] _ (w1.heap.size + 1) (fun h => by cases h) rfl (Rd.new w1 [.int .i64 3, .int .i64 n] 3 rfl) (by simp) HQ.out (by omega)).mono ?_
    rintro e w2 ⟨A2, c2, rfl, o2, f2⟩
    have F2 := Lib.hid ((fr_alloc w1 (.cells #[.int .i64 3, .int .i64 n] 3)).transNo f2)
    have O2 := Lib.hid o2
    clear o2 f2
    go_wp2_with fail
    refine (j_write (A1.out.frNo F2.out) A2 _ c2 (intsF [3, n]) w2.heap.size O2.out.len.2 O2.out.rd rfl (Nat.le_refl _) (by omega) (by omega)).mono ?_
    rintro e w3 ⟨rfl, j3⟩
    have J3 := Lib.hid (JTo.after F2.out j3)
    clear j3
    go_wp2_with fail
    go_ret
    refine ⟨rfl, ?_⟩
    rw [HY.out]
    obtain ⟨F', g1, g2, g3⟩ := J3.out
    exact ⟨F', g1, fun i hi => (g2 i hi).elim (fun h => I1.out i h) (fun h => .inr (Nat.le_trans F1.out.size h)), F1.out.trans g3 I1.out⟩
  · have b1 : (X == 0) = false := by simpa using hx
    have b2 : (X != 0) = true := by simpa using hx
    have hy : Y = xs := by rw [HY.out, if_neg hx]
    clear hbd HY
    have J1 := Lib.hid j1
    have HX := Lib.hid hx
    have HY := Lib.hid hy
    clear j1 hx hy
    go_wp2_with fail
    go_ret
    exact ⟨rfl, by rw [HY.out]; exact J1.out⟩
end Go.Proofs.Ytneeajegegmigaa
