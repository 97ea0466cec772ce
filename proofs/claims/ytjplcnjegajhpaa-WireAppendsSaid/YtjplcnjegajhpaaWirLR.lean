/-
  The contracts of the reference's Text, Ints and SameInts.
-/
import Derived.Test.YtjplcnjegajhpaaWirL
import Derived.Test.YtjplcnjegajhpaaWirRef
namespace Go.Proofs.Ytjplcnjegajhpaa
open Go.ChangeShapes Go.WideShapes Go.ChangeAt Go.RowKit

set_option maxHeartbeats 1000000 in
theorem rtext_any (A : Option Addr) (n c : Nat) (s : ByteArray) (l : List UInt8) (w : World) (B : Nat) (hA : A = none → n = 0) (hl : l.length = n) (hr : Rd w B A (l.map bv)) (hB : B ≤ w.heap.size) (hsz : n + s.size ≤ 140737488355000) :
    Calls Try.prog 22 #[.slice A n c, .string s] w fun e w' => ∃ A' c', e = .returned (.slice A' (n + (textN s.data.toList).length) c') ∧ Own w' (fun i => w.heap.size ≤ i) 5 (.slice A' (n + (textN s.data.toList).length) c') ((l ++ textN s.data.toList).map bv) ∧ Fr No w w' := by
  obtain ⟨i0, hi0, hz0, hz1, hz2⟩ := info_parts bytes_info
  have hel := encN_len10 (codeN (s.size : Int)) (codeN_lt _ (by omega) (by omega))
  have htx : textN s.data.toList = encN (codeN (s.size : Int)) ++ s.data.toList := rfl
  rw [htx]
  have HA := Lib.hid hA
  have HL := Lib.hid hl
  have HR := Lib.hid hr
  clear hA hl hr htx
  go_enter Try.func22, Try.ntmps22
  go_wp2_with fail
  refine (rint_any A n c (s.size : Int) l _ B HA.out HL.out HR.out hB (by omega) (by omega) (by omega)).mono ?_
  rintro e w2 ⟨A2, c2, rfl, o2, f2⟩
  have O2 := Lib.hid o2
  have F2 := Lib.hid f2
  have hs2 := F2.out.size
  clear o2 f2
  generalize hen : encN (codeN (s.size : Int)) = en at *
  go_wp2_with (at_builtin; refine Lib.wpList_append_own_string _ rfl (.tmp 8) (.tmp 9) _ _ rfl w.heap.size 5 i0 Try.underlying22 Try.underlying9 hi0 hz0 hz1 hz2 _ (n + en.length) ((l ++ en).map bv) rfl ?c0 s rfl ?c1 ?c2 ?c3 ?_)
  case c0 => exact O2.out.base (by rw [List.length_map, List.length_append, HL.out])
  case c1 => unfold maxLen; omega
  case c2 => omega
  case c3 => exact hs2
  intro v3 w3 ho3 hg3 _
  have o3 := Own.ofBase ho3
  have f3 := F2.out.transNew ((Fr.refl (fun i => w.heap.size ≤ i) w2).grown hg3 fun k hk => .inl (O2.out.2 k hk)) fun i hi => hi
  have e3 : l.map bv ++ (en.map bv ++ Lib.strCells s) = (l ++ (en ++ s.data.toList)).map bv := by simp [Lib.strCells]
  rw [e3] at o3
  obtain ⟨A3, c3, rfl, n3⟩ := o3.form
  have hl3 : ((l ++ (en ++ s.data.toList)).map bv).length = n + (en ++ s.data.toList).length := by rw [List.length_map, List.length_append, HL.out]
  rw [hl3] at o3 ⊢
  have O3 := Lib.hid o3
  have F3 := Lib.hid f3
  clear o3 f3 ho3 hg3 e3 n3 hl3
  go_wp2_with fail
  subst hen
  go_ret
  exact ⟨A3, c3, rfl, O3.out, F3.out⟩

set_option maxHeartbeats 1000000 in
theorem rints_any (A : Option Addr) (n c : Nat) (A0 : Option Addr) (m c0 : Nat) (q : List Int) (l : List UInt8) (w : World) (B B0 : Nat) (hA : A = none → n = 0) (hl : l.length = n) (hr : Rd w B A (l.map bv)) (hB : B ≤ w.heap.size)
    (hA0 : A0 = none → m = 0) (hq : q.length = m) (hr0 : Rd w B0 A0 (q.map iv)) (hB0 : B0 ≤ w.heap.size) (hb : ∀ x ∈ q, -9223372036854775808 ≤ x ∧ x ≤ 9223372036854775807) (hsz : n + 10 * m ≤ 224000000000000) :
    Calls Try.prog 24 #[.slice A n c, .slice A0 m c0] w fun e w' => ∃ A' c', e = .returned (.slice A' (n + (intsN q).length) c') ∧ Own w' (fun i => w.heap.size ≤ i) 5 (.slice A' (n + (intsN q).length) c') ((l ++ intsN q).map bv) ∧ Fr No w w' := by
  have hel := encN_len10 (codeN (m : Int)) (codeN_lt _ (by omega) (by omega))
  have htx : intsN q = encN (codeN (m : Int)) ++ intsF q := by rw [← hq]; rfl
  rw [htx]
  have HA := Lib.hid hA
  have HL := Lib.hid hl
  have HR := Lib.hid hr
  have HA0 := Lib.hid hA0
  have HQ := Lib.hid hq
  have HR0 := Lib.hid hr0
  have HQB := Lib.hid hb
  clear hA hl hr htx hA0 hq hr0 hb
  go_enter Try.func24, Try.ntmps24
  go_wp2_with fail
  refine (rint_any A n c (m : Int) l _ B HA.out HL.out HR.out hB (by omega) (by omega) (by omega)).mono ?_
  rintro e w2 ⟨A2, c2, rfl, o2, f2⟩
  have O2 := Lib.hid o2
  have F2 := Lib.hid f2
  have hs2 := F2.out.size
  clear o2 f2
  generalize hen : encN (codeN (m : Int)) = en at *
  go_wp2_with fail
  go_loopw [5, 6] (fun o i wr => ∃ (A' : Option Addr) (c' k : Nat) (p : List UInt8), k ≤ m ∧ i = .int .i64 k ∧ p = intsF (q.take k) ∧ p.length ≤ 10 * k ∧ o = .slice A' (n + en.length + p.length) c' ∧ Own wr (fun i => w.heap.size ≤ i) 5 (.slice A' (n + en.length + p.length) c') ((l ++ en ++ p).map bv) ∧ Fr No w wr) (fun _ i _ => m - (intOf i).toNat)
  case atStart => exact ⟨A2, c2, 0, [], Nat.zero_le _, rfl, by simp [intsF], by simp, rfl, by simpa using O2.out, F2.out⟩
  case round =>
    obtain ⟨A', c', k, p, hk, rfl, hp, hpl, rfl, ho, hf⟩ := hrel
    have HP := Lib.hid hp
    have O3 := Lib.hid ho
    have F3 := Lib.hid hf
    have hs3 : w.heap.size ≤ wr.heap.size := hf.size
    clear hp ho hf
    by_cases hlt : k < m
    · obtain ⟨b, off, rfl, _, hc⟩ := HR0.out.at_ (by rw [List.length_map, HQ.out]; omega)
      have hkl : k < q.length := by rw [HQ.out]; exact hlt
      have hck := HR0.out.frNo F3.out hB0 |>.at_ (by rw [List.length_map, HQ.out]; omega)
      obtain ⟨b', off', hbe, _, hc'⟩ := hck
      injection hbe with hbe
      injection hbe with hb1 hb2
      subst hb1 hb2
      have hck := hc' k (by rw [List.length_map]; exact hkl)
      simp only [List.getElem_map] at hck
      have HS := Lib.hid (List.take_succ_eq_append_getElem hkl)
      have HX := Lib.hid (HQB.out q[k] (List.getElem_mem hkl))
      have hen1 := encN_len10 _ (codeN_lt q[k] HX.out.1 HX.out.2)
      generalize q[k] = x at *
      clear hc hc'
      go_wp2_with fail
      refine (rint_any A' (n + en.length + p.length) c' x (l ++ en ++ p) _ _ O3.out.len.2 (by rw [List.length_append, List.length_append, HL.out]) O3.out.rd (Nat.le_refl _) HX.out.1 HX.out.2 (by omega)).mono ?_
      rintro e w4 ⟨A4, c4, rfl, o4, f4⟩
      have O4 := Lib.hid (o4.mono (G := fun i => w.heap.size ≤ i) fun i hi => by omega)
      have F4 := Lib.hid (F3.out.transNo f4)
      clear o4 f4
      go_wp2_with fail
      go_roundw
      case rel =>
        refine ⟨A4, c4, k + 1, p ++ encN (codeN x), by omega, by go_num, by rw [HS.out, intsF_snoc, HP.out], by rw [List.length_append]; omega, ?_, ?_, F4.out⟩
        · rw [List.length_append, Nat.add_assoc (n + en.length)]
        · rw [List.length_append, ← Nat.add_assoc (n + en.length), ← List.append_assoc]; exact O4.out
      case measure => simp [intOf]; omega
    · have hpe : p = intsF q := by rw [HP.out, List.take_of_length_le (by rw [HQ.out]; omega)]
      have HPE := Lib.hid hpe
      clear hpe
      go_wp2_with fail
      subst hen
      go_ret
      refine ⟨A', c', ?_, ?_, F3.out⟩
      · rw [← HPE.out, List.length_append, Nat.add_assoc]; rfl
      · rw [← HPE.out, List.length_append, ← Nat.add_assoc, ← List.append_assoc]; exact O3.out

theorem same_ints (A A2 : Option Addr) (n c m c2 : Nat) (l l2 : List Int) (B B2 : Nat) (w : World) (hl : l.length = n) (hr : Rd w B A (l.map iv)) (hl2 : l2.length = m) (hr2 : Rd w B2 A2 (l2.map iv)) (hn : n ≤ maxLen) :
    Calls Try.prog 29 #[.slice A n c, .slice A2 m c2] w fun e w' => e = .returned (.bool (l == l2)) ∧ ∃ j, w' = w.drewN j := by
  unfold maxLen at hn
  have HL := Lib.hid hl
  have HR := Lib.hid hr
  have HL2 := Lib.hid hl2
  have HR2 := Lib.hid hr2
  clear hl hr hl2 hr2
  by_cases hnm : n = m
  · subst hnm
    go_enter Try.func29, Try.ntmps29
    go_wp2_with fail
    go_loopw [5] (fun i wr => ∃ k j : Nat, k ≤ n ∧ i = .int .i64 k ∧ l.take k = l2.take k ∧ wr = w.drewN j) (fun i _ => n - (intOf i).toNat)
    case atStart => exact ⟨0, 0, Nat.zero_le _, rfl, rfl, rfl⟩
    case round =>
      obtain ⟨k, j, hk, rfl, hp, rfl⟩ := hrel
      have HP := Lib.hid hp
      clear hp
      by_cases hlt : k < n
      · obtain ⟨b, off, rfl, _, hc⟩ := HR.out.at_ (by rw [List.length_map, HL.out]; omega)
        obtain ⟨b2, off2, rfl, _, hc2⟩ := HR2.out.at_ (by rw [List.length_map, HL2.out]; omega)
        have hck := hc k (by rw [List.length_map, HL.out]; omega)
        have hck2 := hc2 k (by rw [List.length_map, HL2.out]; omega)
        simp only [List.getElem_map] at hck hck2
        have hkl : k < l.length := by rw [HL.out]; exact hlt
        have hkl2 : k < l2.length := by rw [HL2.out]; exact hlt
        have HS := Lib.hid (List.take_succ_eq_append_getElem hkl)
        have HS2 := Lib.hid (List.take_succ_eq_append_getElem hkl2)
        have HX : Hid (∀ h : l = l2, l[k] = l2[k]) := Lib.hid (fun h => by subst h; rfl)
        clear hc hc2
        generalize l[k] = x at *
        generalize l2[k] = y at *
        by_cases hxy : x = y
        · have ht : (x == y) = true := by simp [hxy]
          go_wp2_with fail
          go_quiet (fail)
          go_wp2_with fail
          go_roundw
          case rel => exact ⟨k + 1, _, by omega, by go_num, by rw [HS.out, HS2.out, HP.out, hxy], rfl⟩
          case measure => simp [intOf]; omega
        · have ht : (x == y) = false := by simp [hxy]
          go_wp2_with fail
          go_quiet (fail)
          go_wp2_with fail
          go_ret
          refine ⟨ret_bool ?_, j + nq, World.drewN_drewN _ _ _⟩
          symm
          rw [beq_eq_false_iff_ne]
          exact fun h => hxy (HX.out h)
      · go_wp2_with fail
        go_ret
        refine ⟨ret_bool ?_, _, rfl⟩
        symm
        rw [beq_iff_eq]
        have h1 := HP.out
        rw [List.take_of_length_le (by rw [HL.out]; omega), List.take_of_length_le (by rw [HL2.out]; omega)] at h1
        exact h1
  · have ht : ((n : Int) == (m : Int)) = false := by simp; omega
    go_enter Try.func29, Try.ntmps29
    go_wp2_with fail
    go_ret
    refine ⟨ret_bool ?_, 0, rfl⟩
    symm
    rw [beq_eq_false_iff_ne]
    intro h
    subst h
    exact hnm (HL.out.symm.trans HL2.out)
end Go.Proofs.Ytjplcnjegajhpaa
