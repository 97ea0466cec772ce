/-
  Lists with the same bytes are equal; the walk of WireUnlike.
-/
import Derived.Test.YtjplcnjegajhpaaWirLR
import Derived.Test.YtjplcnjegajhpaaWirLaws
namespace Go.Proofs.Ytjplcnjegajhpaa
open Go.ChangeShapes Go.WideShapes Go.ChangeAt Go.RowKit

theorem enc_split {n m : Int} (h1 : -9223372036854775808 ≤ n) (h2 : n ≤ 9223372036854775807) (h3 : -9223372036854775808 ≤ m) (h4 : m ≤ 9223372036854775807) {x y : List UInt8} (h : encN (codeN n) ++ x = encN (codeN m) ++ y) : n = m ∧ x = y := by
  have e1 := takN_enc n h1 h2 x
  have e2 := takN_enc m h3 h4 y
  rw [h, e2] at e1
  injection e1 with e1
  subst e1
  exact ⟨rfl, List.append_cancel_left h⟩

theorem intsF_inj : ∀ (x y : List Int), (∀ n ∈ x, -9223372036854775808 ≤ n ∧ n ≤ 9223372036854775807) → (∀ n ∈ y, -9223372036854775808 ≤ n ∧ n ≤ 9223372036854775807) → x.length = y.length → intsF x = intsF y → x = y := by
  intro x
  induction x with
  | nil => intro y _ _ hl _; exact (List.eq_nil_of_length_eq_zero hl.symm).symm
  | cons a x ih =>
    intro y hx hy hl h
    rcases y with _ | ⟨b, y⟩
    · simp at hl
    · simp only [intsF, List.flatMap_cons] at h
      obtain ⟨e1, e2⟩ := enc_split (hx a (by simp)).1 (hx a (by simp)).2 (hy b (by simp)).1 (hy b (by simp)).2 h
      subst e1
      rw [ih y (fun n hn => hx n (by simp [hn])) (fun n hn => hy n (by simp [hn])) (by simpa using hl) e2]

theorem intsN_beq (x y : List Int) (hx : ∀ n ∈ x, -9223372036854775808 ≤ n ∧ n ≤ 9223372036854775807) (hy : ∀ n ∈ y, -9223372036854775808 ≤ n ∧ n ≤ 9223372036854775807) (lx : x.length ≤ 9223372036854775807) (ly : y.length ≤ 9223372036854775807) : (intsN x == intsN y) = (x == y) := by
  rw [Bool.eq_iff_iff, beq_iff_eq, beq_iff_eq]
  constructor
  · intro h
    obtain ⟨e1, e2⟩ := enc_split (by omega) (by omega) (by omega) (by omega) h
    exact intsF_inj x y hx hy (by omega) e2
  · rintro rfl; rfl

theorem ints_info : (Try.prog.info? 3).map (fun i => (i.zero, i.size, i.bytes)) = some (some (.int .i64 0), 1, 8) := by kernel_rfl
theorem iv_one (l : List Int) : ∀ u ∈ l.map iv, u.oneCell' = true := by
  intro u hu
  obtain ⟨c, _, rfl⟩ := List.mem_map.1 hu
  rfl

theorem alike_any (A A2 : Option Addr) (n c m c2 : Nat) (x y : List Int) (B : Nat) (w : World) (hA : A = none → n = 0) (hl : x.length = n) (hr : Rd w B A (x.map iv)) (hA2 : A2 = none → m = 0) (hl2 : y.length = m) (hr2 : Rd w B A2 (y.map iv)) (hB : B ≤ w.heap.size)
    (hx : ∀ n ∈ x, -9223372036854775808 ≤ n ∧ n ≤ 9223372036854775807) (hy : ∀ n ∈ y, -9223372036854775808 ≤ n ∧ n ≤ 9223372036854775807) (hn : n ≤ 17592186044416) (hm : m ≤ 17592186044416) :
    Calls Try.prog 20 #[.slice A n c, .slice A2 m c2] w fun e w' => e = .returned (.bool true) ∧ Fr No w w' := by
  have hbe := intsN_beq x y hx hy (by omega) (by omega)
  have HA := Lib.hid hA
  have HL := Lib.hid hl
  have HR := Lib.hid hr
  have HA2 := Lib.hid hA2
  have HL2 := Lib.hid hl2
  have HR2 := Lib.hid hr2
  have HX := Lib.hid hx
  have HY := Lib.hid hy
  have HBE := Lib.hid hbe
  clear hA hl hr hA2 hl2 hr2 hx hy hbe
  go_enter Try.func20, Try.ntmps20
  go_wp2_with fail
  refine (ints_any none 0 0 A n c x [] _ 0 B (fun _ => rfl) rfl Rd.nil (Nat.zero_le _) HA.out HL.out HR.out hB HX.out (by omega)).mono ?_
  rintro e w1 ⟨A1, c1, rfl, o1, f1⟩
  rw [List.nil_append] at o1
  rw [Nat.zero_add] at o1 ⊢
  have O1 := Lib.hid o1
  have F1 := Lib.hid f1
  clear o1 f1
  go_wp2_with fail
  refine (ints_any none 0 0 A2 m c2 y [] _ 0 B (fun _ => rfl) rfl Rd.nil (Nat.zero_le _) HA2.out HL2.out (HR2.out.frNo F1.out hB) (Nat.le_trans hB F1.out.size) HY.out (by omega)).mono ?_
  rintro e w2 ⟨A3, c3, rfl, o2, f2⟩
  rw [List.nil_append] at o2
  rw [Nat.zero_add] at o2 ⊢
  have P1 := Lib.hid (O1.out.frNo f2)
  have G2 := Lib.hid (F1.out.transNo f2)
  have O2 := Lib.hid o2
  have F2 := Lib.hid f2
  clear o2 f2
  go_wp2_with fail
  refine (same_bytes _ _ _ _ _ _ (intsN x) (intsN y) _ _ _ P1.out.len.2 rfl P1.out.rd O2.out.len.2 rfl O2.out.rd).mono ?_
  rintro e w3 ⟨rfl, rfl⟩
  rw [HBE.out]
  go_wp2_with fail
  refine (same_ints A A2 n c m c2 x y B B _ HL.out (HR.out.frNo G2.out hB) HL2.out (HR2.out.frNo G2.out hB) (by unfold maxLen; omega)).mono ?_
  rintro e w4 ⟨rfl, j, rfl⟩
  go_wp2_with fail
  go_ret
  exact ⟨ret_bool (by simp), G2.out.drewN j⟩

set_option maxHeartbeats 1000000 in
theorem WireUnlike_walk (a0 : Option Addr) (len0 cap0 : Nat) (z0 : List Int) (a1 : Option Addr) (len1 cap1 : Nat) (z1 : List Int) (a2 : Int) (a3 : Int) (w : World) (w0 : IsRow .i64 w a0 len0 cap0 z0) (w1 : IsRow .i64 w a1 len1 cap1 z1) (_w2 : (Lit.int .i64 a2).wf = true) (w3 : (Lit.int .i64 a3).wf = true) (s0 : cap0 * 8 ≤ 140737488351232) (s1 : cap1 * 8 ≤ 140737488351232) :
    Calls Try.prog 8 #[.slice a0 len0 cap0, .slice a1 len1 cap1, .int .i64 a2, .int .i64 a3] w fun e w' => e = .returned (.bool true) ∧ Below w.heap.size w w' := by
  obtain ⟨x, hx, -, hc0, hn, hr, hb⟩ := w0.openI
  obtain ⟨y, hy, -, hc1, hn1, hr1, hb1⟩ := w1.openI
  obtain ⟨i0, hi0, hz0, hz1, hz2⟩ := info_parts ints_info
  have b3 := bounds_i64 w3
  have HX := Lib.hid hx
  have HN := Lib.hid hn
  have HR := Lib.hid hr
  have HB := Lib.hid hb
  have HY := Lib.hid hy
  have HN1 := Lib.hid hn1
  have HR1 := Lib.hid hr1
  have HB1 := Lib.hid hb1
  clear hx hn hr hb hy hn1 hr1 hb1
  clear w0 w1 w3
  have X0 := Lib.hid (HB.out)
  by_cases h0 : len0 = 0
  · have t0 : decide ((0 : Int) < (len0 : Int)) = false := by simp; omega
    have hxn : x.map iv = [] := by rw [List.eq_nil_of_length_eq_zero (HX.out.trans h0)]; rfl
    have t1 : ¬ 0 < len0 := by omega
    have H0 := Lib.hid h0
    have HXN := Lib.hid hxn
    clear h0 hxn
    go_enter Try.func8, Try.ntmps8
    go_wp2_with (at_builtin; refine wpList_append_rd _ rfl (.tmp 10) (.tmp 11) _ rfl 0 3 i0 _ 8 Try.underlying33 hi0 hz0 hz1 hz2 rfl _ (0) ([]) rfl ?k1a (w.heap.size) (a0) (len0) (cap0) (x.map iv) rfl ?k1b ?k1c ?k1d (iv_one _) ?k1e ?k1f (Nat.zero_le _) ?_)
    case k1a => exact (Own.made w 3).1
    case k1b => exact HN.out
    case k1c => exact (HR.out.frNo (fr_alloc _ _) (Nat.le_refl _))
    case k1d => exact (by rw [List.length_map, HX.out])
    case k1e => unfold maxLen; omega
    case k1f => omega
    intro v2 w2 happ
    obtain ⟨o2, f2⟩ := (Own.made w 3).appendedNew (by simp) rfl (by rw [List.length_map, HX.out]) happ
    rw [List.nil_append] at o2
    have F2 := Lib.hid ((fr_alloc w (.cells #[] 3)).transNew f2 fun i hi => hi)
    obtain ⟨A2, c2, rfl, n2⟩ := o2.form
    rw [List.length_map, HX.out] at o2 ⊢
    have O2 := Lib.hid o2
    clear o2
    clear happ f2 n2
    go_wp2_with fail
    refine (awake1_any _).mono ?_
    rintro e w3 ⟨rfl, f3⟩
    have O3 := Lib.hid (O2.out.frNo f3)
    have F3 := Lib.hid (F2.out.transNo f3)
    clear f3
    go_wp2_with fail
    refine (alike_any a0 a1 len0 cap0 len1 cap1 x y w.heap.size _ HN.out HX.out (HR.out.frNo F3.out (Nat.le_refl _)) HN1.out HY.out (HR1.out.frNo F3.out (Nat.le_refl _)) F3.out.size HB.out HB1.out (by omega) (by omega)).mono ?_
    rintro e w4 ⟨rfl, f4⟩
    have O4 := Lib.hid (O3.out.frNo f4)
    have F4 := Lib.hid (F3.out.transNo f4)
    clear f4
    go_wp2_with fail
    refine (alike_any a0 A2 len0 cap0 len0 c2 x x _ _ HN.out HX.out ((HR.out.frNo F4.out (Nat.le_refl _)).mono F4.out.size) O4.out.len.2 HX.out O4.out.rd (Nat.le_refl _) HB.out HB.out (by omega) (by omega)).mono ?_
    rintro e w5 ⟨rfl, f5⟩
    go_wp2_with fail
    go_ret
    exact ⟨ret_bool rfl, (F4.out.transNo f5).belowNo⟩
  · have t1 : 0 < len0 := by omega
    have hrm1 := Int.lt_tmod_of_pos a2 (b := (len0 : Int)) (by omega)
    have hrm2 := Int.tmod_lt_of_pos a2 (b := (len0 : Int)) (by omega)
    obtain ⟨q, hq⟩ : ∃ q : Nat, (a2.tmod (len0 : Int) + (len0 : Int)) % (len0 : Int) = (q : Int) :=
      ⟨((a2.tmod (len0 : Int) + (len0 : Int)) % (len0 : Int)).toNat, (Int.toNat_of_nonneg (Int.emod_nonneg _ (by omega))).symm⟩
    have hqm : q < len0 := by
      have := Int.emod_lt_of_pos (a2.tmod (len0 : Int) + (len0 : Int)) (b := (len0 : Int)) (by omega)
      omega
    have hm0 : ((len0 : Int) == 0) = false := by simp; omega
    clear h0
    go_enter Try.func8, Try.ntmps8
    go_wp2_with (at_builtin; refine wpList_append_rd _ rfl (.tmp 10) (.tmp 11) _ rfl 0 3 i0 _ 8 Try.underlying33 hi0 hz0 hz1 hz2 rfl _ (0) ([]) rfl ?k2a (w.heap.size) (a0) (len0) (cap0) (x.map iv) rfl ?k2b ?k2c ?k2d (iv_one _) ?k2e ?k2f (Nat.zero_le _) ?_)
    case k2a => exact (Own.made w 3).1
    case k2b => exact HN.out
    case k2c => exact (HR.out.frNo (fr_alloc _ _) (Nat.le_refl _))
    case k2d => exact (by rw [List.length_map, HX.out])
    case k2e => unfold maxLen; omega
    case k2f => omega
    intro v2 w2 happ
    obtain ⟨o2, f2⟩ := (Own.made w 3).appendedNew (by simp) rfl (by rw [List.length_map, HX.out]) happ
    rw [List.nil_append] at o2
    have F2 := (fr_alloc w (.cells #[] 3)).transNew f2 fun i hi => hi
    obtain ⟨A2, c2, rfl, n2⟩ := o2.form
    rw [List.length_map, HX.out] at o2 ⊢
    obtain ⟨b, rfl, hb1, hb2, hcell⟩ := own_head o2 (by omega)
    obtain ⟨hcc, hff⟩ := hcell q (by rw [List.length_map, HX.out]; exact hqm)
    simp only [List.getElem_map] at hcc
    obtain ⟨o3, f3⟩ := own_stored o2 q (iv a3)
    rw [← List.map_set] at o3
    have f3' := F2.transNew f3 fun i hi => hi
    have hcap := o2.cap.1
    have hset : ∀ n ∈ x.set q a3, -9223372036854775808 ≤ n ∧ n ≤ 9223372036854775807 := by
      intro n hn
      rcases List.mem_or_eq_of_mem_set hn with h | h
      · exact HB.out n h
      · subst h; omega
    have hsl : (x.set q a3).length = len0 := by rw [List.length_set, HX.out]
    have O3 := Lib.hid o3
    have F3 := Lib.hid f3'
    have HSET := Lib.hid hset
    have HSL := Lib.hid hsl
    clear hset hsl
    clear happ f2 n2 o2 o3 f3 f3' hcell F2
    go_wp2_with fail
    refine (awake1_any _).mono ?_
    rintro e w3 ⟨rfl, f3⟩
    have O4 := Lib.hid (O3.out.frNo f3)
    have F4 := Lib.hid (F3.out.transNo f3)
    clear f3 O3 F3
    go_wp2_with fail
    refine (alike_any a0 a1 len0 cap0 len1 cap1 x y w.heap.size _ HN.out HX.out (HR.out.frNo F4.out (Nat.le_refl _)) HN1.out HY.out (HR1.out.frNo F4.out (Nat.le_refl _)) F4.out.size HB.out HB1.out (by omega) (by omega)).mono ?_
    rintro e w4 ⟨rfl, f4⟩
    have O5 := Lib.hid (O4.out.frNo f4)
    have F5 := Lib.hid (F4.out.transNo f4)
    clear f4
    go_wp2_with fail
    refine (alike_any a0 (some ⟨b, 0, none⟩) len0 cap0 len0 c2 x (x.set q a3) _ _ HN.out HX.out ((HR.out.frNo F5.out (Nat.le_refl _)).mono F5.out.size) O5.out.len.2 HSL.out O5.out.rd (Nat.le_refl _) HB.out HSET.out (by omega) (by omega)).mono ?_
    rintro e w5 ⟨rfl, f5⟩
    go_wp2_with fail
    go_ret
    exact ⟨ret_bool rfl, (F5.out.transNo f5).belowNo⟩
end Go.Proofs.Ytjplcnjegajhpaa
