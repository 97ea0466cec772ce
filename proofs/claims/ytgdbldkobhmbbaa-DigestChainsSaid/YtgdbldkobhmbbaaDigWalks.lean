/-
  The walks of the digest's statements that make no memory.
-/
import Derived.Test.YtgdbldkobhmbbaaDigLaws
namespace Go.Proofs.Ytgdbldkobhmbbaa
open Go.ChangeShapes Go.WideShapes Go.ChangeAt Go.RowKit

theorem DigestMix_walk (a0 : Int) (a1 : Int) (_w0 : (Lit.int .u64 a0).wf = true) (_w1 : (Lit.int .i64 a1).wf = true) (w : World) :
    Calls Try.prog 3 #[.int .u64 a0, .int .i64 a1] w fun e w' => e = .returned (.bool true) ∧ Grown w w' := by
  go_enter Try.func3, Try.ntmps3
  go_wp2_with (first
    | (go_at_call 11; refine (awake2_any _).mono ?_; rintro e w' ⟨rfl, rfl⟩)
    | (go_at_call 12; refine (mix_any _ _ _).mono ?_; rintro e w' ⟨rfl, rfl⟩)
    | (go_at_call 13; refine (rmix_any _ _ _).mono ?_; rintro e w' ⟨rfl, rfl⟩))
  go_ret
  exact ⟨ret_bool rfl, Grown.refl _⟩

theorem DigestInjective_walk (a0 : Int) (a1 : Int) (a2 : Int) (a3 : Int) (w0 : (Lit.int .u64 a0).wf = true) (w1 : (Lit.int .u64 a1).wf = true) (w2 : (Lit.int .i64 a2).wf = true) (w3 : (Lit.int .i64 a3).wf = true) (w : World) :
    Calls Try.prog 7 #[.int .u64 a0, .int .u64 a1, .int .i64 a2, .int .i64 a3] w fun e w' => e = .returned (.bool true) ∧ Grown w w' := by
  have b0 := bounds_u64 w0
  have b1 := bounds_u64 w1
  have b2 := bounds_i64 w2
  have b3 := bounds_i64 w3
  have e1 : (mixI a1 a2 == mixI a1 a3) = (a2 == a3) := by
    rw [Bool.eq_iff_iff, beq_iff_eq, beq_iff_eq]
    exact ⟨mixI_inj (by omega) (by omega) (by omega) (by omega), fun h => by rw [h]⟩
  have e2 : (mixI a0 a2 == mixI a1 a2) = (a0 == a1) := by
    rw [Bool.eq_iff_iff, beq_iff_eq, beq_iff_eq]
    exact ⟨mixI_inj' (by omega) (by omega) (by omega) (by omega), fun h => by rw [h]⟩
  clear b0 b1 b2 b3 w0 w1 w2 w3
  go_enter Try.func7, Try.ntmps7
  go_wp2_with (first
    | (go_at_call 11; refine (awake2_any _).mono ?_; rintro e w' ⟨rfl, rfl⟩)
    | (go_at_call 12; refine (mix_any _ _ _).mono ?_; rintro e w' ⟨rfl, rfl⟩))
  go_ret
  exact ⟨ret_bool rfl, Grown.refl _⟩

theorem DigestKeys_walk (a0 : Int) (a1 : Int) (a2 : Option Addr) (len2 cap2 : Nat) (z2 : List Int) (w : World) (w0 : (Lit.int .i64 a0).wf = true) (w1 : (Lit.int .i64 a1).wf = true) (w2 : IsRow .u8 w a2 len2 cap2 z2) (_s2 : cap2 * 1 ≤ 140737488351232) :
    Calls Try.prog 6 #[.int .i64 a0, .int .i64 a1, .slice a2 len2 cap2] w fun e w' => e = .returned (.bool true) ∧ Below w.heap.size w w' := by
  have b0 := bounds_i64 w0
  have b1 := bounds_i64 w1
  obtain ⟨l, hl, hm, _, _, hr⟩ := w2.open_
  have e1 : (sumI a0 l == sumI a1 l) = (a0 == a1) := by
    rw [Bool.eq_iff_iff, beq_iff_eq, beq_iff_eq]
    exact ⟨sumI_keys (by omega) (by omega) (by omega) (by omega) l, fun h => by rw [h]⟩
  have HL := Lib.hid hl
  have HR := Lib.hid hr
  clear b0 b1 w0 w1 w2 hl hr
  go_enter Try.func6, Try.ntmps6
  go_wp2_with (first
    | (go_at_call 11; refine (awake2_any _).mono ?_; rintro e w' ⟨rfl, rfl⟩)
    | (go_at_call 14; refine (sum_any _ _ _ _ l _ HL.out hm HR.out).mono ?_; rintro e w' ⟨rfl, rfl⟩))
  go_ret
  exact ⟨ret_bool rfl, Below.refl _ _⟩

theorem DigestSum_walk (a0 : Int) (a1 : Int) (a2 : Option Addr) (len2 cap2 : Nat) (z2 : List Int) (w : World) (_w0 : (Lit.int .i64 a0).wf = true) (_w1 : (Lit.int .u64 a1).wf = true) (w2 : IsRow .u8 w a2 len2 cap2 z2) (_s2 : cap2 * 1 ≤ 140737488351232) :
    Calls Try.prog 8 #[.int .i64 a0, .int .u64 a1, .slice a2 len2 cap2] w fun e w' => e = .returned (.bool true) ∧ Below w.heap.size w w' := by
  obtain ⟨l, hl, hm, _, _, hr⟩ := w2.open_
  have HL := Lib.hid hl
  have HR := Lib.hid hr
  clear w2 hl hr
  go_enter Try.func8, Try.ntmps8
  go_wp2_with (first
    | (go_at_call 11; refine (awake2_any _).mono ?_; rintro e w' ⟨rfl, rfl⟩)
    | (go_at_call 14; refine (sum_any _ _ _ _ l _ HL.out hm HR.out).mono ?_; rintro e w' ⟨rfl, rfl⟩)
    | (go_at_call 15; refine (rsum_any _ _ _ _ l _ HL.out hm HR.out).mono ?_; rintro e w' ⟨rfl, rfl⟩)
    | (go_at_call 16; refine (chain_any _ _ _ _ _ l _ HL.out hm HR.out).mono ?_; rintro e w' ⟨rfl, rfl⟩)
    | (go_at_call 17; refine (rchain_any _ _ _ _ _ l _ HL.out hm HR.out).mono ?_; rintro e w' ⟨rfl, rfl⟩))
  go_ret
  exact ⟨ret_bool rfl, Below.refl _ _⟩

theorem DigestSteps_walk (a0 : Int) (a1 : Option Addr) (len1 cap1 : Nat) (z1 : List Int) (w : World) (_w0 : (Lit.int .i64 a0).wf = true) (w1 : IsRow .u8 w a1 len1 cap1 z1) (_s1 : cap1 * 1 ≤ 140737488351232) :
    Calls Try.prog 4 #[.int .i64 a0, .slice a1 len1 cap1] w fun e w' => e = .returned (.bool true) ∧ Below w.heap.size w w' := by
  obtain ⟨l, hl, hm, _, _, hr⟩ := w1.open_
  have HL := Lib.hid hl
  have HR := Lib.hid hr
  have hm' : len1 ≤ 9223372036854775807 := hm
  clear w1 hl hr
  go_enter Try.func4, Try.ntmps4
  go_wp2_with (go_at_call 12; refine (mix_any _ _ _).mono ?_; rintro e w' ⟨rfl, rfl⟩)
  go_loop [5, 6] (fun t i => ∃ k : Nat, k ≤ len1 ∧ i = .int .i64 k ∧ t = .int .u64 (foldI (mixI 14695981039346656037 a0) (l.take k))) (fun _ i => len1 - (intOf i).toNat)
  case atStart => exact ⟨0, Nat.zero_le _, rfl, rfl⟩
  case round =>
    obtain ⟨k, hk, rfl, rfl⟩ := hrel
    by_cases hlt : k < len1
    · obtain ⟨b, off, rfl, _, hc⟩ := HR.out.at_ (by rw [List.length_map, HL.out]; omega)
      have hck := hc k (by rw [List.length_map, HL.out]; omega)
      simp only [List.getElem_map] at hck
      have hkl : k < l.length := by rw [HL.out]; exact hlt
      have HS := Lib.hid (take_snoc l k hkl)
      have hb1 : l[k].toNat < 256 := l[k].toNat_lt
      clear hc
      go_wp2_with (go_at_call 12; refine (mix_any _ _ _).mono ?_; rintro e w' ⟨rfl, rfl⟩)
      go_round
      case rel => exact ⟨k + 1, by omega, by go_num, by rw [HS.out, foldI_snoc]⟩
      case measure => simp [intOf]; omega
    · have hfin : (sumI a0 l == mixI (foldI (mixI 14695981039346656037 a0) (List.take k l)) ↑len1) = true := by
        rw [List.take_of_length_le (by rw [HL.out]; omega), ← HL.out, beq_iff_eq]
        rfl
      go_wp2_with (first
        | (go_at_call 11; refine (awake2_any _).mono ?_; rintro e w' ⟨rfl, rfl⟩)
        | (go_at_call 12; refine (mix_any _ _ _).mono ?_; rintro e w' ⟨rfl, rfl⟩)
        | (go_at_call 14; refine (sum_any _ _ _ _ l _ HL.out hm HR.out).mono ?_; rintro e w' ⟨rfl, rfl⟩))
      go_ret
      exact ⟨ret_bool rfl, Below.refl _ _⟩

theorem DigestChains_walk (a0 : Int) (a1 : Int) (a2 : Int) (a3 : Option Addr) (len3 cap3 : Nat) (z3 : List Int) (w : World) (_w0 : (Lit.int .i64 a0).wf = true) (w1 : (Lit.int .u64 a1).wf = true) (w2 : (Lit.int .u64 a2).wf = true) (w3 : IsRow .u8 w a3 len3 cap3 z3) (_s3 : cap3 * 1 ≤ 140737488351232) :
    Calls Try.prog 9 #[.int .i64 a0, .int .u64 a1, .int .u64 a2, .slice a3 len3 cap3] w fun e w' => e = .returned (.bool true) ∧ Below w.heap.size w w' := by
  obtain ⟨l, hl, hm, _, _, hr⟩ := w3.open_
  have b1 := bounds_u64 w1
  have b2 := bounds_u64 w2
  have e1 : (chainI a0 a1 l == chainI a0 a2 l) = (a1 == a2) := by
    rw [Bool.eq_iff_iff, beq_iff_eq, beq_iff_eq]
    exact ⟨chainI_parents (by omega) (by omega) (by omega) (by omega) l, fun h => by rw [h]⟩
  have HL := Lib.hid hl
  have HR := Lib.hid hr
  have HE := Lib.hid e1
  have hm' : len3 ≤ 9223372036854775807 := hm
  clear w1 w2 w3 hl hr b1 b2 e1
  go_enter Try.func9, Try.ntmps9
  go_wp2_with (go_at_call 12; refine (mix_any _ _ _).mono ?_; rintro e w' ⟨rfl, rfl⟩)
  go_loop [9, 10] (fun t i => ∃ k : Nat, k ≤ len3 ∧ i = .int .i64 k ∧ t = .int .u64 (foldI (mixI (mixI 14695981039346656037 a0) (wrap64 a1)) (l.take k))) (fun _ i => len3 - (intOf i).toNat)
  case atStart => exact ⟨0, Nat.zero_le _, rfl, rfl⟩
  case round =>
    obtain ⟨k, hk, rfl, rfl⟩ := hrel
    by_cases hlt : k < len3
    · obtain ⟨b, off, rfl, _, hc⟩ := HR.out.at_ (by rw [List.length_map, HL.out]; omega)
      have hck := hc k (by rw [List.length_map, HL.out]; omega)
      simp only [List.getElem_map] at hck
      have hkl : k < l.length := by rw [HL.out]; exact hlt
      have HS := Lib.hid (take_snoc l k hkl)
      have hb1 : l[k].toNat < 256 := l[k].toNat_lt
      clear hc
      go_wp2_with (go_at_call 12; refine (mix_any _ _ _).mono ?_; rintro e w' ⟨rfl, rfl⟩)
      go_round
      case rel => exact ⟨k + 1, by omega, by go_num, by rw [HS.out, foldI_snoc]⟩
      case measure => simp [intOf]; omega
    · have hfin : (chainI a0 a1 l == mixI (foldI (mixI (mixI 14695981039346656037 a0) (wrap64 a1)) (List.take k l)) ↑len3) = true := by
        rw [List.take_of_length_le (by rw [HL.out]; omega), ← HL.out, beq_iff_eq, mixI_wrap64]
        rfl
      have e1 := HE.out
      go_wp2_with (first
        | (go_at_call 11; refine (awake2_any _).mono ?_; rintro e w' ⟨rfl, rfl⟩)
        | (go_at_call 12; refine (mix_any _ _ _).mono ?_; rintro e w' ⟨rfl, rfl⟩)
        | (go_at_call 16; refine (chain_any _ _ _ _ _ l _ HL.out hm HR.out).mono ?_; rintro e w' ⟨rfl, rfl⟩))
      go_ret
      exact ⟨ret_bool rfl, Below.refl _ _⟩
end Go.Proofs.Ytgdbldkobhmbbaa
