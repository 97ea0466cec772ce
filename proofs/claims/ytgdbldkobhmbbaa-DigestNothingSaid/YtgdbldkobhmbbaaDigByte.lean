/-
  The walks of the digest's statements that copy the bytes.
-/
import Derived.Test.YtgdbldkobhmbbaaDigLaws
import Derived.Test.YtgdbldkobhmbbaaApp
namespace Go.Proofs.Ytgdbldkobhmbbaa
open Go.ChangeShapes Go.WideShapes Go.ChangeAt Go.RowKit

set_option maxHeartbeats 400000 in
theorem DigestByte_walk (a0 : Int) (a1 : Option Addr) (len1 cap1 : Nat) (z1 : List Int) (a2 : Int) (a3 : Int) (w : World) (_w0 : (Lit.int .i64 a0).wf = true) (w1 : IsRow .u8 w a1 len1 cap1 z1) (w2 : (Lit.int .i64 a2).wf = true) (w3 : (Lit.int .u8 a3).wf = true) (s1 : cap1 * 1 ≤ 140737488351232) :
    Calls Try.prog 5 #[.int .i64 a0, .slice a1 len1 cap1, .int .i64 a2, .int .u8 a3] w fun e w' => e = .returned (.bool true) ∧ Below w.heap.size w w' := by
  obtain ⟨l, hl, hm, hlc, hnil, hr⟩ := w1.open_
  obtain ⟨i0, hi0, hz0, hz1, hz2⟩ := info_parts bytes_info
  have b2 := bounds_i64 w2
  have b3 := bounds_u8 w3
  have HL := Lib.hid hl
  have HR := Lib.hid hr
  have HN := Lib.hid hnil
  clear w1 w2 w3 hl hr hnil
  by_cases h0 : len1 = 0
  · have h0' : ((len1 : Int) == 0) = true := by simp [h0]
    go_enter Try.func5, Try.ntmps5
    go_wp2_with (go_at_call 11; refine (awake2_any _).mono ?_; rintro e w' ⟨rfl, rfl⟩)
    go_ret
    exact ⟨ret_bool rfl, Below.refl _ _⟩
  · have h0' : ((len1 : Int) == 0) = false := by simp; omega
    go_enter Try.func5, Try.ntmps5
    have hrm1 := Int.lt_tmod_of_pos a2 (b := (len1 : Int)) (by omega)
    have hrm2 := Int.tmod_lt_of_pos a2 (b := (len1 : Int)) (by omega)
    have hm' : len1 ≤ 9223372036854775807 := hm
    obtain ⟨kk, hkk⟩ : ∃ kk : Nat, (a2.tmod (len1 : Int) + (len1 : Int)) % (len1 : Int) = (kk : Int) :=
      ⟨((a2.tmod (len1 : Int) + (len1 : Int)) % (len1 : Int)).toNat, (Int.toNat_of_nonneg (Int.emod_nonneg _ (by omega))).symm⟩
    have hkl : kk < len1 := by
      have := Int.emod_lt_of_pos (a2.tmod (len1 : Int) + (len1 : Int)) (b := (len1 : Int)) (by omega)
      omega
    go_wp2_with (at_builtin; refine wpList_append_rd _ rfl (.tmp 15) (.tmp 16) _ rfl w.heap.size 5 i0 _ 1 Try.underlying26 hi0 hz0 hz1 hz2 rfl _ 0 [] rfl (World.ownsRow_made w #[] 0 (Nat.le_refl _) (Nat.zero_le _) rfl) w.heap.size a1 len1 cap1 (l.map bv) rfl ?c1 ?c2 ?c3 (bv_one l) ?c4 ?c5 ?c6 ?_)
    case c1 => exact HN.out
    case c2 => exact HR.out.below ((Below.refl _ _).alloc (Nat.le_refl _) _)
    case c3 => rw [List.length_map, HL.out]
    case c4 => unfold maxLen; omega
    case c5 => omega
    case c6 => simp
    intro v1 w1 happ
    obtain ⟨g, cap, hv, hg1, hg2⟩ := happ.slice (by omega)
    obtain ⟨hown, hgrow, _⟩ := happ
    rw [Nat.zero_add] at hv
    subst hv
    rw [Nat.zero_add, List.nil_append] at hown
    have hkl' : kk < l.length := by rw [HL.out]; exact hkl
    have hc1 : w1.cell? ⟨g, kk, none⟩ = some (.int .u8 (l[kk].toNat : Int)) := by
      rw [hown.cellAt kk (by omega), List.getElem?_map, List.getElem?_eq_getElem hkl']
      rfl
    have hf1 : w1.frozen? ⟨g, kk, none⟩ = false := hown.frozenAt kk
    obtain ⟨hown2, _⟩ := hown.stored kk (.int .u8 a3)
    have hbel : Below w.heap.size w (w1.setCell ⟨g, kk, none⟩ (.int .u8 a3)) :=
      ((((Below.refl _ _).alloc (Nat.le_refl _) _).grown hgrow (by simp) (by intro k hk; simp [Value.ownBlock] at hk; omega))).setCell (p := ⟨g, kk, none⟩) hg1 _
    obtain ⟨c, hc⟩ : ∃ c : UInt8, (c.toNat : Int) = a3 := ⟨UInt8.ofNat a3.toNat, by rw [UInt8.toNat_ofNat']; omega⟩
    subst hc
    have hset : (l.map bv).set kk (.int .u8 (c.toNat : Int)) = (l.set kk c).map bv := (List.map_set (f := bv)).symm
    rw [hset] at hown2
    have HC := Lib.hid (Rd.of_own hown2)
    have HB := Lib.hid (HR.out.below hbel)
    have hsz : w.heap.size ≤ (w1.setCell ⟨g, kk, none⟩ (.int .u8 (c.toNat : Int))).heap.size := hbel.size
    have HBE := Lib.hid hbel
    have heq : (sumI a0 l == sumI a0 (l.set kk c)) = ((l[kk].toNat : Int) == (c.toNat : Int)) := by
      rw [Bool.eq_iff_iff, beq_iff_eq, beq_iff_eq, Int.natCast_inj]
      refine ⟨fun h => by rw [allI_byte (mixI_lo _ _) (mixI_hi _ _) l kk hkl' c h], fun h => ?_⟩
      have : l[kk] = c := UInt8.toNat_inj.1 h
      rw [← this, List.set_getElem_self]
    obtain ⟨b, off, rfl, hblt, hcell⟩ := HR.out.at_ (by rw [List.length_map, HL.out]; omega)
    have hck : (w1.setCell ⟨g, kk, none⟩ (.int .u8 (c.toNat : Int))).cell? ⟨b, off + kk, none⟩ = some (.int .u8 (l[kk].toNat : Int)) := by
      rw [hbel.cell (p := ⟨b, off + kk, none⟩) hblt, hcell kk (by rw [List.length_map]; exact hkl')]
      simp
    clear hcell hgrow hown hown2 hbel hset
    go_wp2_with fail
    go_quiet ((first
      | (go_at_call 11; exact quiet_same (awake2_any _))
      | (go_at_call 14; with_reducible exact quiet_same (sum_any _ _ _ _ l _ HL.out hm (HB.out.drewN _)))
      | (go_at_call 14; with_reducible exact quiet_same (sum_any _ _ _ _ (l.set kk c) _ (by rw [List.length_set]; exact HL.out) hm (HC.out.drewN _)))))
    go_wp2_with fail
    go_ret
    exact ⟨ret_bool (by simp), below_drewN HBE.out nq⟩

theorem few2_yes (n : Int) (h : n ≤ 300) (w : World) :
    Calls Try.prog 18 #[.int .i64 n] w fun e w' => e = .returned (.bool true) ∧ w = w' := by
  go_enter Try.func18, Try.ntmps18
  go_wp2
  go_ret
  exact ⟨ret_bool (by simp), rfl⟩
theorem few2_no (n : Int) (h : ¬ n ≤ 300) (w : World) :
    Calls Try.prog 18 #[.int .i64 n] w fun e w' => e = .returned (.bool false) ∧ w = w' := by
  go_enter Try.func18, Try.ntmps18
  go_wp2
  go_ret
  exact ⟨ret_bool (by simp), rfl⟩

set_option maxHeartbeats 400000 in
theorem DigestNothing_walk (a0 : Int) (a1 : Int) (a2 : Option Addr) (len2 cap2 : Nat) (z2 : List Int) (w : World) (_w0 : (Lit.int .i64 a0).wf = true) (_w1 : (Lit.int .u64 a1).wf = true) (w2 : IsRow .u8 w a2 len2 cap2 z2) (_s2 : cap2 * 1 ≤ 140737488351232) :
    Calls Try.prog 10 #[.int .i64 a0, .int .u64 a1, .slice a2 len2 cap2] w fun e w' => e = .returned (.bool true) ∧ Below w.heap.size w w' := by
  obtain ⟨l, hl, hm, hlc, hnil, hr⟩ := w2.open_
  obtain ⟨i0, hi0, hz0, hz1, hz2⟩ := info_parts bytes_info
  have HL := Lib.hid hl
  have HR := Lib.hid hr
  have HN := Lib.hid hnil
  clear w2 hl hr hnil
  by_cases h0 : len2 ≤ 300
  · go_enter Try.func10, Try.ntmps10
    go_wp2_with (first
      | (go_at_call 18; refine (few2_yes _ (by omega) _).mono ?_; rintro e w' ⟨rfl, rfl⟩)
      | (at_builtin; refine wpList_append_rd _ rfl (.tmp 15) (.tmp 16) _ rfl w.heap.size 5 i0 _ 1 Try.underlying26 hi0 hz0 hz1 hz2 rfl _ 0 [] rfl (World.ownsRow_made w #[] 0 (Nat.le_refl _) (Nat.zero_le _) rfl) w.heap.size a2 len2 cap2 (l.map bv) rfl ?c1 ?c2 ?c3 (bv_one l) ?c4 ?c5 ?c6 ?_))
    case c1 => exact HN.out
    case c2 => exact HR.out.below ((Below.refl _ _).alloc (Nat.le_refl _) _)
    case c3 => rw [List.length_map, HL.out]
    case c4 => unfold maxLen; omega
    case c5 => omega
    case c6 => simp
    intro v1 w1 happ
    obtain ⟨hown, hgrow, _⟩ := happ
    rw [Nat.zero_add, List.nil_append] at hown
    obtain ⟨g, cap, hv, hgn⟩ := ownsRow_slice_form hown
    subst hv
    have hbel : Below w.heap.size w w1 :=
      ((((Below.refl _ _).alloc (Nat.le_refl _) _).grown hgrow (by simp) (by intro k hk; simp [Value.ownBlock] at hk; omega)))
    have HC := Lib.hid (Rd.of_own hown)
    have HB := Lib.hid (HR.out.below hbel)
    have HBE := Lib.hid hbel
    have hcv1 := run_string_rd (P := Try.prog) w1 26 9 5 Try.underlying26 Try.underlying5 Try.underlying9 (c := cap2) HN.out HL.out HB.out
    have hcv2 := run_string_rd (P := Try.prog) w1 26 9 5 Try.underlying26 Try.underlying5 Try.underlying9 (c := cap) hgn HL.out HC.out
    clear hgrow hown hbel hgn
    go_wp2_with (first
      | (go_at_call 11; refine (awake2_any _).mono ?_; rintro e w' ⟨rfl, rfl⟩)
      | (go_at_call 14; with_reducible refine (sum_any _ a2 _ _ l _ HL.out hm HB.out).mono ?_; rintro e w' ⟨rfl, rfl⟩)
      | (go_at_call 14; with_reducible refine (sum_any _ g _ _ l _ HL.out hm HC.out).mono ?_; rintro e w' ⟨rfl, rfl⟩)
      | (go_at_call 16; with_reducible refine (chain_any _ _ a2 _ _ l _ HL.out hm HB.out).mono ?_; rintro e w' ⟨rfl, rfl⟩)
      | (go_at_call 16; with_reducible refine (chain_any _ _ g _ _ l _ HL.out hm HC.out).mono ?_; rintro e w' ⟨rfl, rfl⟩))
    go_ret
    exact ⟨ret_bool (by simp), HBE.out⟩
  · go_enter Try.func10, Try.ntmps10
    go_wp2_with (first
      | (go_at_call 18; refine (few2_no _ (by omega) _).mono ?_; rintro e w' ⟨rfl, rfl⟩)
      | (go_at_call 11; refine (awake2_any _).mono ?_; rintro e w' ⟨rfl, rfl⟩))
    go_ret
    exact ⟨ret_bool rfl, Below.refl _ _⟩

end Go.Proofs.Ytgdbldkobhmbbaa
