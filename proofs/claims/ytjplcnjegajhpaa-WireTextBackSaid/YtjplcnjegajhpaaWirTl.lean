/-
  The contracts of takeLength, TakeText and TakeInts, of the program and of the reference.
-/
import Derived.Test.YtjplcnjegajhpaaWirTlP
import Derived.Test.YtjplcnjegajhpaaWirTake
import Derived.Test.YtjplcnjegajhpaaWirTakeR
namespace Go.Proofs.Ytjplcnjegajhpaa
open Go.ChangeShapes Go.WideShapes Go.ChangeAt Go.RowKit

theorem len_any (A : Option Addr) (n c : Nat) (l : List UInt8) (w : World) (B : Nat) (hl : l.length = n) (hm : n ≤ maxLen) (hr : Rd w B A (l.map bv)) :
    Calls Try.prog 34 #[.slice A n c] w fun e w' => e = .returned (takV (lenT l)) ∧ w = w' := by
  obtain ⟨t, ht⟩ : ∃ t, takN l = t := ⟨_, rfl⟩
  have hL : lenT l = if t.e = 0 then (if t.n < 0 then ⟨0, 0, 18⟩ else if 65536 < t.n then ⟨0, 0, 2⟩ else t) else ⟨0, 0, t.e⟩ := by unfold lenT; rw [ht]
  rw [hL]
  have hC := take_any A n c l w B hl hm hr
  rw [ht] at hC
  have HC := Lib.hid hC
  clear ht hL hC hl hm hr
  by_cases h1 : t.e = 0
  · rw [if_pos h1]
    have b1 : (t.e == 0) = true := by simp [h1]
    have b1' : (t.e != 0) = false := by simp [h1]
    have H1 := Lib.hid h1
    clear h1
    by_cases h2 : t.n < 0
    · rw [if_pos h2]
      go_enter Try.func34, Try.ntmps34
      go_wp2_with fail
      refine (HC.out).mono ?_
      rintro e w1 ⟨rfl, rfl⟩
      go_wp2_with fail
      go_ret3
      exact ⟨rfl, rfl⟩
    · rw [if_neg h2]
      by_cases h3 : 65536 < t.n
      · rw [if_pos h3]
        go_enter Try.func34, Try.ntmps34
        go_wp2_with fail
        refine (HC.out).mono ?_
        rintro e w1 ⟨rfl, rfl⟩
        go_wp2_with fail
        go_ret3
        exact ⟨rfl, rfl⟩
      · rw [if_neg h3]
        go_enter Try.func34, Try.ntmps34
        go_wp2_with fail
        refine (HC.out).mono ?_
        rintro e w1 ⟨rfl, rfl⟩
        go_wp2_with fail
        go_ret3
        exact ⟨by simp [H1.out], rfl⟩
  · rw [if_neg h1]
    have b1 : (t.e == 0) = false := by simp [h1]
    have b1' : (t.e != 0) = true := by simp [h1]
    clear h1
    go_enter Try.func34, Try.ntmps34
    go_wp2_with fail
    refine (HC.out).mono ?_
    rintro e w1 ⟨rfl, rfl⟩
    go_wp2_with fail
    go_ret3
    exact ⟨rfl, rfl⟩

theorem rlen_any (A : Option Addr) (n c : Nat) (l : List UInt8) (w : World) (B : Nat) (hl : l.length = n) (hm : n ≤ maxLen) (hr : Rd w B A (l.map bv)) :
    Calls Try.prog 35 #[.slice A n c] w fun e w' => e = .returned (takV (lenT l)) ∧ w = w' := by
  obtain ⟨t, ht⟩ : ∃ t, takN l = t := ⟨_, rfl⟩
  have hL : lenT l = if t.e = 0 then (if t.n < 0 then ⟨0, 0, 18⟩ else if 65536 < t.n then ⟨0, 0, 2⟩ else t) else ⟨0, 0, t.e⟩ := by unfold lenT; rw [ht]
  rw [hL]
  have hC := rtake_any A n c l w B hl hm hr
  rw [ht] at hC
  have HC := Lib.hid hC
  clear ht hL hC hl hm hr
  by_cases h1 : t.e = 0
  · rw [if_pos h1]
    have b1 : (t.e == 0) = true := by simp [h1]
    have b1' : (t.e != 0) = false := by simp [h1]
    have H1 := Lib.hid h1
    clear h1
    by_cases h2 : t.n < 0
    · rw [if_pos h2]
      go_enter Try.func35, Try.ntmps35
      go_wp2_with fail
      refine (HC.out).mono ?_
      rintro e w1 ⟨rfl, rfl⟩
      go_wp2_with fail
      go_ret3
      exact ⟨rfl, rfl⟩
    · rw [if_neg h2]
      by_cases h3 : 65536 < t.n
      · rw [if_pos h3]
        go_enter Try.func35, Try.ntmps35
        go_wp2_with fail
        refine (HC.out).mono ?_
        rintro e w1 ⟨rfl, rfl⟩
        go_wp2_with fail
        go_ret3
        exact ⟨rfl, rfl⟩
      · rw [if_neg h3]
        go_enter Try.func35, Try.ntmps35
        go_wp2_with fail
        refine (HC.out).mono ?_
        rintro e w1 ⟨rfl, rfl⟩
        go_wp2_with fail
        go_ret3
        exact ⟨by simp [H1.out], rfl⟩
  · rw [if_neg h1]
    have b1 : (t.e == 0) = false := by simp [h1]
    have b1' : (t.e != 0) = true := by simp [h1]
    clear h1
    go_enter Try.func35, Try.ntmps35
    go_wp2_with fail
    refine (HC.out).mono ?_
    rintro e w1 ⟨rfl, rfl⟩
    go_wp2_with fail
    go_ret3
    exact ⟨rfl, rfl⟩


/-- TakeText's three results. -/
abbrev txtV (t : TxtT) : Value := .tuple #[.string ⟨t.s.toArray⟩, .int .i64 (t.k : Int), .int .i64 t.e]

theorem ttext_any (A : Option Addr) (n c : Nat) (l : List UInt8) (w : World) (B : Nat) (hA : A = none → n = 0) (hl : l.length = n) (hm : n ≤ maxLen) (hnc : n ≤ c) (hr : Rd w B A (l.map bv)) :
    Calls Try.prog 25 #[.slice A n c] w fun e w' => e = .returned (txtV (textT l)) ∧ w = w' := by
  have hC := len_any A n c l w B hl hm hr
  have hok := lenT_ok l
  unfold textT
  unfold maxLen at hm
  generalize lenT l = t at *
  rw [hl] at hok ⊢
  obtain ⟨tn, tk, te⟩ := t
  simp only at hok ⊢
  have HC := Lib.hid hC
  clear hC
  by_cases h1 : te = 0
  · obtain ⟨-, -, h2, h3, h4⟩ := hok h1
    obtain ⟨m, rfl⟩ : ∃ m : Nat, tn = (m : Int) := ⟨tn.toNat, by omega⟩
    rw [if_pos h1]
    subst h1
    clear hok h2
    by_cases h5 : (n : Int) - tk < m
    · rw [if_pos h5]
      clear hA hl hr
      go_enter Try.func25, Try.ntmps25
      go_wp2_with fail
      refine (HC.out).mono ?_
      rintro e w1 ⟨rfl, rfl⟩
      go_wp2_with fail
      go_ret3
      exact ⟨rfl, rfl⟩
    · rw [if_neg h5, Int.toNat_natCast]
      have hlen : ((l.drop tk).take m).length = m := by rw [List.length_take, List.length_drop]; omega
      have hrd : Rd w B (if c = tk then A else A.map (·.add tk)) (((l.drop tk).take m).map bv) := by
        have := (hr.dropIf c tk (by rw [List.length_map]; omega)).take m
        rwa [← List.map_drop, ← List.map_take] at this
      have hcv := run_string_rd (P := Try.prog) w 22 9 5 Try.underlying22 Try.underlying5 Try.underlying9 (c := c - tk) (fun h => by have := none_dropIf (c := c) (k := tk) hA h; omega) hlen hrd
      clear hA hl hr hrd hlen
      go_enter Try.func25, Try.ntmps25
      go_wp2_with fail
      refine (HC.out).mono ?_
      rintro e w1 ⟨rfl, rfl⟩
      go_wp2_with fail
      all_goals
        go_ret3
        exact ⟨rfl, rfl⟩
  · rw [if_neg h1]
    have b1 : (te == 0) = false := by simp [h1]
    have b1' : (te != 0) = true := by simp [h1]
    clear h1 hA hl hr hok
    go_enter Try.func25, Try.ntmps25
    go_wp2_with fail
    refine (HC.out).mono ?_
    rintro e w1 ⟨rfl, rfl⟩
    go_wp2_with fail
    go_ret3
    exact ⟨rfl, rfl⟩

theorem rttext_any (A : Option Addr) (n c : Nat) (l : List UInt8) (w : World) (B : Nat) (hA : A = none → n = 0) (hl : l.length = n) (hm : n ≤ maxLen) (hnc : n ≤ c) (hr : Rd w B A (l.map bv)) :
    Calls Try.prog 26 #[.slice A n c] w fun e w' => e = .returned (txtV (textT l)) ∧ w = w' := by
  have hC := rlen_any A n c l w B hl hm hr
  have hok := lenT_ok l
  unfold textT
  unfold maxLen at hm
  generalize lenT l = t at *
  rw [hl] at hok ⊢
  obtain ⟨tn, tk, te⟩ := t
  simp only at hok ⊢
  have HC := Lib.hid hC
  clear hC
  by_cases h1 : te = 0
  · obtain ⟨-, -, h2, h3, h4⟩ := hok h1
    obtain ⟨m, rfl⟩ : ∃ m : Nat, tn = (m : Int) := ⟨tn.toNat, by omega⟩
    rw [if_pos h1]
    subst h1
    clear hok h2
    by_cases h5 : (n : Int) - tk < m
    · rw [if_pos h5]
      clear hA hl hr
      go_enter Try.func26, Try.ntmps26
      go_wp2_with fail
      refine (HC.out).mono ?_
      rintro e w1 ⟨rfl, rfl⟩
      go_wp2_with fail
      go_ret3
      exact ⟨rfl, rfl⟩
    · rw [if_neg h5, Int.toNat_natCast]
      have hlen : ((l.drop tk).take m).length = m := by rw [List.length_take, List.length_drop]; omega
      have hrd : Rd w B (if c = tk then A else A.map (·.add tk)) (((l.drop tk).take m).map bv) := by
        have := (hr.dropIf c tk (by rw [List.length_map]; omega)).take m
        rwa [← List.map_drop, ← List.map_take] at this
      have hcv := run_string_rd (P := Try.prog) w 22 9 5 Try.underlying22 Try.underlying5 Try.underlying9 (c := c - tk) (fun h => by have := none_dropIf (c := c) (k := tk) hA h; omega) hlen hrd
      clear hA hl hr hrd hlen
      go_enter Try.func26, Try.ntmps26
      go_wp2_with fail
      refine (HC.out).mono ?_
      rintro e w1 ⟨rfl, rfl⟩
      go_wp2_with fail
      all_goals
        go_ret3
        exact ⟨rfl, rfl⟩
  · rw [if_neg h1]
    have b1 : (te == 0) = false := by simp [h1]
    have b1' : (te != 0) = true := by simp [h1]
    clear h1 hA hl hr hok
    go_enter Try.func26, Try.ntmps26
    go_wp2_with fail
    refine (HC.out).mono ?_
    rintro e w1 ⟨rfl, rfl⟩
    go_wp2_with fail
    go_ret3
    exact ⟨rfl, rfl⟩


/-- What TakeInts leaves. -/
def TInts (w : World) (t : IntsT) (e : Ending) (w' : World) : Prop :=
  ∃ A c, e = .returned (.tuple #[.slice A t.q.length c, .int .i64 (t.k : Int), .int .i64 t.e]) ∧ Own w' (fun i => w.heap.size ≤ i) 3 (.slice A t.q.length c) (t.q.map iv) ∧ Fr No w w'
theorem TInts.err (w w' : World) (x : Int) (hf : Fr No w w') : TInts w ⟨[], 0, x⟩ (.returned (.tuple #[.slice none 0 0, .int .i64 0, .int .i64 x])) w' := ⟨none, 0, rfl, Own.nil _ _ _, hf⟩

set_option maxHeartbeats 1000000 in
theorem tints_any (A : Option Addr) (n c : Nat) (l : List UInt8) (w : World) (B : Nat) (hA : A = none → n = 0) (hl : l.length = n) (hm : n ≤ maxLen) (hnc : n ≤ c) (hr : Rd w B A (l.map bv)) (hB : B ≤ w.heap.size) :
    Calls Try.prog 27 #[.slice A n c] w (TInts w (intsT l)) := by
  obtain ⟨i0, hi0, hz0, hz1, hz2⟩ := info_parts ints_info
  obtain ⟨u0, hu0, gz0, gz1, gz2⟩ := info_parts bytes_info
  have hC := len_any A n c l w B hl hm hr
  have hok := lenT_ok l
  obtain ⟨T, hT⟩ : ∃ T, T = intsT l := ⟨_, rfl⟩
  rw [← hT]
  unfold intsT at hT
  generalize lenT l = t at *
  rw [hl] at hok
  obtain ⟨tn, tk, te⟩ := t
  simp only at hok hT
  have hM := hm
  unfold maxLen at hm
  have HC := Lib.hid hC
  have HA := Lib.hid hA
  have HL := Lib.hid hl
  have HR := Lib.hid hr
  clear hC hA hl hr
  by_cases h1 : te = 0
  · obtain ⟨-, -, h2, h3, h4⟩ := hok h1
    obtain ⟨m, rfl⟩ : ∃ m : Nat, tn = (m : Int) := ⟨tn.toNat, by omega⟩
    rw [if_pos h1, Int.toNat_natCast] at hT
    subst h1
    clear hok h2
    have HT := Lib.hid hT
    clear hT
    go_enter Try.func27, Try.ntmps27
    go_wp2_with fail
    refine (HC.out).mono ?_
    rintro e w1 ⟨rfl, rfl⟩
    go_wp2_with fail
    go_loopw [6, 8, 22] (fun p v i wr => ∃ (k pp : Nat) (A' : Option Addr) (c' : Nat) (acc : List Int), k ≤ m ∧ i = .int .i64 k ∧ p = .int .i64 pp ∧ pp ≤ n ∧ v = .slice A' k c' ∧ acc.length = k ∧ Own wr (fun i => w.heap.size ≤ i) 3 (.slice A' k c') (acc.map iv) ∧ Fr No w wr ∧ T = intsG (m - k) l pp acc) (fun _ _ i _ => m - (intOf i).toNat)
    case atStart => exact ⟨0, tk, none, 0, [], Nat.zero_le _, rfl, rfl, h4, rfl, rfl, Own.nil _ _ _, Fr.refl _ _, HT.out⟩
    case round =>
      obtain ⟨k, pp, A', c', acc, hk, rfl, rfl, hpp, rfl, hacc, ho, hf, hg⟩ := hrel
      have hs1 : w.heap.size ≤ wr.heap.size := hf.size
      have hk3 : k ≤ 65536 := by omega
      clear HC HT
      by_cases hlt : k < m
      · obtain ⟨A2, hs2, hn2, hr2⟩ := run_from (P := Try.prog) 22 5 Try.underlying22 u0 hu0 gz1 A n c pp hpp HA.out
        have hr3 := hr2 wr B (l.map bv) (by rw [List.length_map, HL.out]; exact hnc) (HR.out.frNo hf hB)
        rw [← List.map_drop] at hr3
        have hC2 := take_any A2 (n - pp) (c - pp) (l.drop pp) wr B (by rw [List.length_drop, HL.out]) (by omega) hr3
        have hk2 := takN_k (l.drop pp)
        rw [List.length_drop, HL.out] at hk2
        rw [show m - k = (m - k - 1) + 1 from by omega, intsG] at hg
        generalize takN (l.drop pp) = t at *
        obtain ⟨tn, tk2, te⟩ := t
        simp only at hk2 hg
        clear hr2 hr3 hn2 h4
        have HC2 := Lib.hid hC2
        clear hC2
        by_cases h5 : te = 0
        · rw [if_pos h5] at hg
          have h6 := hk2 h5
          subst h5
          clear hk2
          have HG := Lib.hid hg
          have HO := Lib.hid ho
          have HF := Lib.hid hf
          have HACC := Lib.hid hacc
          clear hg ho hf hacc
          go_wp2_with fail
          refine HC2.out.mono ?_
          rintro e w2 ⟨rfl, rfl⟩
          go_wp2_with (at_builtin; refine wpList_append_rd _ rfl (.tmp 35) (.tmp 37) _ rfl 0 3 i0 _ 8 Try.underlying33 hi0 hz0 hz1 hz2 rfl _ (k) (acc.map iv) rfl ?k1a (wr.heap.size + 1) (some ⟨wr.heap.size, 0, none⟩) (1) (1) ([tn].map iv) rfl ?k1b ?k1c ?k1d (iv_one _) ?k1e ?k1f (Nat.zero_le _) ?_)
          case k1a => exact ((HO.out.frNo (fr_alloc wr _)).own (by rw [List.length_map, HACC.out]))
          case k1b => exact (fun h => by cases h)
          case k1c => exact (Rd.new wr [.int .i64 tn] 3 rfl)
          case k1d => exact rfl
          case k1e => unfold maxLen; omega
          case k1f => omega
          intro v2 w2 happ
          obtain ⟨o2, f2⟩ := (HO.out.frNo (fr_alloc wr (.cells #[.int .i64 tn] 3))).appendedNew (by simp; omega) (by rw [List.length_map, HACC.out]) rfl happ
          have e2 : acc.map iv ++ [iv tn] = (acc ++ [tn]).map iv := by simp
          rw [e2] at o2
          obtain ⟨A4, c4, rfl, n4⟩ := o2.form
          have e3 : ((acc ++ [tn]).map iv).length = k + 1 := by simp [HACC.out]
          rw [e3] at o2 ⊢
          have O2 := Lib.hid (o2)
          have F2 := Lib.hid ((HF.out.alloc (.cells #[.int .i64 tn] 3)).transNew f2 fun i hi => hi)
          clear happ o2 f2 n4 e2 e3 hs2
          go_wp2_with fail
          go_roundw
          case rel => exact ⟨k + 1, pp + tk2, A4, c4, acc ++ [tn], by omega, by go_num, by go_num, by omega, rfl, by simp [HACC.out], O2.out, F2.out, by rw [HG.out]; congr 1⟩
          case measure => simp [intOf]; omega
        · rw [if_neg h5] at hg
          subst hg
          have b1 : (te == 0) = false := by simp [h5]
          have b1' : (te != 0) = true := by simp [h5]
          clear h5 hk2 ho
          have HF := Lib.hid hf
          clear hf
          go_wp2_with fail
          refine HC2.out.mono ?_
          rintro e w2 ⟨rfl, rfl⟩
          go_wp2_with fail
          go_ret3
          exact TInts.err _ _ _ HF.out
      · obtain rfl : k = m := by omega
        rw [Nat.sub_self, intsG] at hg
        subst hg
        subst hacc
        have HO := Lib.hid ho
        have HF := Lib.hid hf
        clear ho hf
        go_wp2_with fail
        go_ret3
        exact ⟨A', c', rfl, HO.out, HF.out⟩
  · rw [if_neg h1] at hT
    subst hT
    have b1 : (te == 0) = false := by simp [h1]
    have b1' : (te != 0) = true := by simp [h1]
    clear h1 hok
    go_enter Try.func27, Try.ntmps27
    go_wp2_with fail
    refine (HC.out).mono ?_
    rintro e w1 ⟨rfl, rfl⟩
    go_wp2_with fail
    go_ret3
    exact TInts.err _ _ _ (Fr.refl _ _)

set_option maxHeartbeats 1000000 in
theorem rtints_any (A : Option Addr) (n c : Nat) (l : List UInt8) (w : World) (B : Nat) (hA : A = none → n = 0) (hl : l.length = n) (hm : n ≤ maxLen) (hnc : n ≤ c) (hr : Rd w B A (l.map bv)) (hB : B ≤ w.heap.size) :
    Calls Try.prog 28 #[.slice A n c] w (TInts w (intsT l)) := by
  obtain ⟨i0, hi0, hz0, hz1, hz2⟩ := info_parts ints_info
  obtain ⟨u0, hu0, gz0, gz1, gz2⟩ := info_parts bytes_info
  have hC := rlen_any A n c l w B hl hm hr
  have hok := lenT_ok l
  obtain ⟨T, hT⟩ : ∃ T, T = intsT l := ⟨_, rfl⟩
  rw [← hT]
  unfold intsT at hT
  generalize lenT l = t at *
  rw [hl] at hok
  obtain ⟨tn, tk, te⟩ := t
  simp only at hok hT
  have hM := hm
  unfold maxLen at hm
  have HC := Lib.hid hC
  have HA := Lib.hid hA
  have HL := Lib.hid hl
  have HR := Lib.hid hr
  clear hC hA hl hr
  by_cases h1 : te = 0
  · obtain ⟨-, -, h2, h3, h4⟩ := hok h1
    obtain ⟨m, rfl⟩ : ∃ m : Nat, tn = (m : Int) := ⟨tn.toNat, by omega⟩
    rw [if_pos h1, Int.toNat_natCast] at hT
    subst h1
    clear hok h2
    have HT := Lib.hid hT
    clear hT
    go_enter Try.func28, Try.ntmps28
    go_wp2_with fail
    refine (HC.out).mono ?_
    rintro e w1 ⟨rfl, rfl⟩
    go_wp2_with fail
    go_loopw [6, 8, 9] (fun p v i wr => ∃ (k pp : Nat) (A' : Option Addr) (c' : Nat) (acc : List Int), k ≤ m ∧ i = .int .i64 k ∧ p = .int .i64 pp ∧ pp ≤ n ∧ v = .slice A' k c' ∧ acc.length = k ∧ Own wr (fun i => w.heap.size ≤ i) 3 (.slice A' k c') (acc.map iv) ∧ Fr No w wr ∧ T = intsG (m - k) l pp acc) (fun _ _ i _ => m - (intOf i).toNat)
    case atStart => exact ⟨0, tk, none, 0, [], Nat.zero_le _, rfl, rfl, h4, rfl, rfl, Own.nil _ _ _, Fr.refl _ _, HT.out⟩
    case round =>
      obtain ⟨k, pp, A', c', acc, hk, rfl, rfl, hpp, rfl, hacc, ho, hf, hg⟩ := hrel
      have hs1 : w.heap.size ≤ wr.heap.size := hf.size
      have hk3 : k ≤ 65536 := by omega
      clear HC HT
      by_cases hlt : k < m
      · obtain ⟨A2, hs2, hn2, hr2⟩ := run_from (P := Try.prog) 22 5 Try.underlying22 u0 hu0 gz1 A n c pp hpp HA.out
        have hr3 := hr2 wr B (l.map bv) (by rw [List.length_map, HL.out]; exact hnc) (HR.out.frNo hf hB)
        rw [← List.map_drop] at hr3
        have hC2 := rtake_any A2 (n - pp) (c - pp) (l.drop pp) wr B (by rw [List.length_drop, HL.out]) (by omega) hr3
        have hk2 := takN_k (l.drop pp)
        rw [List.length_drop, HL.out] at hk2
        rw [show m - k = (m - k - 1) + 1 from by omega, intsG] at hg
        generalize takN (l.drop pp) = t at *
        obtain ⟨tn, tk2, te⟩ := t
        simp only at hk2 hg
        clear hr2 hr3 hn2 h4
        have HC2 := Lib.hid hC2
        clear hC2
        by_cases h5 : te = 0
        · rw [if_pos h5] at hg
          have h6 := hk2 h5
          subst h5
          clear hk2
          have HG := Lib.hid hg
          have HO := Lib.hid ho
          have HF := Lib.hid hf
          have HACC := Lib.hid hacc
          clear hg ho hf hacc
          go_wp2_with fail
          refine HC2.out.mono ?_
          rintro e w2 ⟨rfl, rfl⟩
          go_wp2_with (at_builtin; refine wpList_append_rd _ rfl (.tmp 38) (.tmp 40) _ rfl 0 3 i0 _ 8 Try.underlying33 hi0 hz0 hz1 hz2 rfl _ (k) (acc.map iv) rfl ?k2a (wr.heap.size + 1) (some ⟨wr.heap.size, 0, none⟩) (1) (1) ([tn].map iv) rfl ?k2b ?k2c ?k2d (iv_one _) ?k2e ?k2f (Nat.zero_le _) ?_)
          case k2a => exact ((HO.out.frNo (fr_alloc wr _)).own (by rw [List.length_map, HACC.out]))
          case k2b => exact (fun h => by cases h)
          case k2c => exact (Rd.new wr [.int .i64 tn] 3 rfl)
          case k2d => exact rfl
          case k2e => unfold maxLen; omega
          case k2f => omega
          intro v2 w2 happ
          obtain ⟨o2, f2⟩ := (HO.out.frNo (fr_alloc wr (.cells #[.int .i64 tn] 3))).appendedNew (by simp; omega) (by rw [List.length_map, HACC.out]) rfl happ
          have e2 : acc.map iv ++ [iv tn] = (acc ++ [tn]).map iv := by simp
          rw [e2] at o2
          obtain ⟨A4, c4, rfl, n4⟩ := o2.form
          have e3 : ((acc ++ [tn]).map iv).length = k + 1 := by simp [HACC.out]
          rw [e3] at o2 ⊢
          have O2 := Lib.hid (o2)
          have F2 := Lib.hid ((HF.out.alloc (.cells #[.int .i64 tn] 3)).transNew f2 fun i hi => hi)
          clear happ o2 f2 n4 e2 e3 hs2
          go_wp2_with fail
          go_roundw
          case rel => exact ⟨k + 1, pp + tk2, A4, c4, acc ++ [tn], by omega, by go_num, by go_num, by omega, rfl, by simp [HACC.out], O2.out, F2.out, by rw [HG.out]; congr 1⟩
          case measure => simp [intOf]; omega
        · rw [if_neg h5] at hg
          subst hg
          have b1 : (te == 0) = false := by simp [h5]
          have b1' : (te != 0) = true := by simp [h5]
          clear h5 hk2 ho
          have HF := Lib.hid hf
          clear hf
          go_wp2_with fail
          refine HC2.out.mono ?_
          rintro e w2 ⟨rfl, rfl⟩
          go_wp2_with fail
          go_ret3
          exact TInts.err _ _ _ HF.out
      · obtain rfl : k = m := by omega
        rw [Nat.sub_self, intsG] at hg
        subst hg
        subst hacc
        have HO := Lib.hid ho
        have HF := Lib.hid hf
        clear ho hf
        go_wp2_with fail
        go_ret3
        exact ⟨A', c', rfl, HO.out, HF.out⟩
  · rw [if_neg h1] at hT
    subst hT
    have b1 : (te == 0) = false := by simp [h1]
    have b1' : (te != 0) = true := by simp [h1]
    clear h1 hok
    go_enter Try.func28, Try.ntmps28
    go_wp2_with fail
    refine (HC.out).mono ?_
    rintro e w1 ⟨rfl, rfl⟩
    go_wp2_with fail
    go_ret3
    exact TInts.err _ _ _ (Fr.refl _ _)

end Go.Proofs.Ytjplcnjegajhpaa
