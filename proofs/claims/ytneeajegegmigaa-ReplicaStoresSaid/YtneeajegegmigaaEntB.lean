/-
  The contracts of both Bytes of an entry.
-/
import Derived.Test.YtneeajegegmigaaEntV
import Derived.Test.YtneeajegegmigaaIntP
import Derived.Test.YtneeajegegmigaaWir
import Derived.Test.YtneeajegegmigaaWirRef
namespace Go.Proofs.Ytneeajegegmigaa
open Go.ChangeShapes Go.WideShapes Go.ChangeAt Go.RowKit
set_option linter.unusedVariables false

/-- The bytes of an entry. -/
def enB (e : En) : List UInt8 := intsF e.l
theorem enB_len (e : En) (h : e.ok) : (enB e).length ≤ 90 := intsF_len e.l h

theorem blk_new' (w : World) (g : Nat) (t : TypeId) (cs : Array Value) (h : g = w.heap.size) : Blk (w.alloc (.cells cs t)) g t cs := by subst h; exact Blk.new w t cs

set_option maxRecDepth 100000 in
set_option maxHeartbeats 4000000 in
theorem bytes_any (e : En) (w : World) (hok : e.ok) :
    Calls Try.prog 57 #[e.v] w fun r w' => ∃ A c, r = .returned (.slice A (enB e).length c) ∧ Own w' (fun i => w.heap.size ≤ i) 5 (.slice A (enB e).length c) ((enB e).map bv) ∧ Fr No w w' := by
  obtain ⟨kd, tick, te, ce, ot, ep, fr, un, n⟩ := e
  have hok' : (-9223372036854775808 ≤ kd ∧ kd ≤ 9223372036854775807) ∧ (-9223372036854775808 ≤ tick ∧ tick ≤ 9223372036854775807) ∧ (-9223372036854775808 ≤ te ∧ te ≤ 9223372036854775807) ∧ (-9223372036854775808 ≤ ce ∧ ce ≤ 9223372036854775807) ∧ (-9223372036854775808 ≤ ot ∧ ot ≤ 9223372036854775807) ∧ (-9223372036854775808 ≤ ep ∧ ep ≤ 9223372036854775807) ∧ (-9223372036854775808 ≤ fr ∧ fr ≤ 9223372036854775807) ∧ (-9223372036854775808 ≤ un ∧ un ≤ 9223372036854775807) ∧ (-9223372036854775808 ≤ n ∧ n ≤ 9223372036854775807) := by simpa [En.ok, En.l] using hok
  obtain ⟨b0, b1, b2, b3, b4, b5, b6, b7, b8⟩ := hok'
  have hend : intsF ([kd, tick, te, ce, ot, ep, fr, un, n].take 9) = enB ⟨kd, tick, te, ce, ot, ep, fr, un, n⟩ := rfl
  generalize enB ⟨kd, tick, te, ce, ot, ep, fr, un, n⟩ = E at *
  obtain ⟨L, hL⟩ : ∃ L, L = [kd, tick, te, ce, ot, ep, fr, un, n] := ⟨_, rfl⟩
  rw [← hL] at hend
  unfold En.v
  have c1 := ent_cells (Blk.new w TEnt #[.int .i64 kd, .int .i64 tick, .int .i64 te, .int .i64 ce, .int .i64 ot, .int .i64 ep, .int .i64 fr, .int .i64 un, .int .i64 n])
  obtain ⟨c0, c1, c2, c3, c4, c5, c6, c7, c8⟩ := c1
  clear hok
  have HEND := Lib.hid hend
  have HL := Lib.hid hL
  have B0 := Lib.hid b0
  have B1 := Lib.hid b1
  have B2 := Lib.hid b2
  have B3 := Lib.hid b3
  have B4 := Lib.hid b4
  have B5 := Lib.hid b5
  have B6 := Lib.hid b6
  have B7 := Lib.hid b7
  have B8 := Lib.hid b8
  clear hend hL b0 b1 b2 b3 b4 b5 b6 b7 b8
  go_enter Try.func57, Try.ntmps57
  go_wp2_with fail
  obtain ⟨W, hW⟩ : ∃ W, W = w.alloc (.cells #[.int .i64 kd, .int .i64 tick, .int .i64 te, .int .i64 ce, .int .i64 ot, .int .i64 ep, .int .i64 fr, .int .i64 un, .int .i64 n] TEnt) := ⟨_, rfl⟩
  have hF : Fr No w W := by rw [hW]; exact fr_alloc w _
  rw [← hW]
  clear hW c0 c1 c2 c3 c4 c5 c6 c7 c8
  have HF := Lib.hid hF
  clear hF
  go_loopw [3, 25] (fun o i wr => ∃ (A' : Option Addr) (c' k : Nat) (p : List UInt8), k ≤ 9 ∧ i = .int .i64 k ∧ p = intsF (L.take k) ∧ p.length ≤ 10 * k ∧ o = .slice A' p.length c' ∧ Own wr (fun i => w.heap.size ≤ i) 5 (.slice A' p.length c') (p.map bv) ∧ Fr No W wr) (fun _ i _ => 9 - (intOf i).toNat)
  case atStart => exact ⟨none, 0, 0, [], Nat.zero_le _, rfl, rfl, Nat.zero_le _, rfl, Own.nil _ _ _, Fr.refl _ _⟩
  case round =>
    obtain ⟨A', c', k, p, hk, rfl, hp, hpl, rfl, ho, hf⟩ := hrel
    have hs : w.heap.size ≤ wr.heap.size := (HF.out.transNo hf).size
    have hcase : k = 0 ∨ k = 1 ∨ k = 2 ∨ k = 3 ∨ k = 4 ∨ k = 5 ∨ k = 6 ∨ k = 7 ∨ k = 8 ∨ k = 9 := by omega
    have HP := Lib.hid hp
    have O3 := Lib.hid ho
    have F3 := Lib.hid hf
    clear hp ho hf hk
    rcases hcase with rfl | rfl | rfl | rfl | rfl | rfl | rfl | rfl | rfl | rfl
    · have hen1 := encN_len10 _ (codeN_lt kd B0.out.1 B0.out.2)
      have htk : intsF (L.take 1) = p ++ encN (codeN kd) := by rw [HP.out, HL.out, ← intsF_snoc]; rfl
      have HTK := Lib.hid htk
      clear htk
      have ix : ∀ W : World, (Instr.index 97 (.agg #[.int .i64 kd, .int .i64 tick, .int .i64 te, .int .i64 ce, .int .i64 ot, .int .i64 ep, .int .i64 fr, .int .i64 un, .int .i64 n]) (.int .i64 0)).run Try.prog W = .ok (.int .i64 kd) W := fun _ => by kernel_rfl
      go_wp2_with fail
      refine (int_any A' p.length c' kd p _ _ O3.out.len.2 rfl O3.out.rd (Nat.le_refl _) B0.out.1 B0.out.2 (by omega)).mono ?_
      rintro e w4 ⟨A4, c4, rfl, o4, f4⟩
      have O4 := Lib.hid (o4.mono (G := fun i => w.heap.size ≤ i) fun i hi => by omega)
      have F4 := Lib.hid (F3.out.transNo f4)
      clear o4 f4
      go_wp2_with fail
      go_roundw
      case rel =>
        refine ⟨A4, c4, 1, p ++ encN (codeN kd), by omega, rfl, HTK.out.symm, by rw [List.length_append]; omega, ?_, ?_, F4.out⟩
        · rw [List.length_append]
        · rw [List.length_append]; exact O4.out
      case measure => simp [intOf]
    · have hen1 := encN_len10 _ (codeN_lt tick B1.out.1 B1.out.2)
      have htk : intsF (L.take 2) = p ++ encN (codeN tick) := by rw [HP.out, HL.out, ← intsF_snoc]; rfl
      have HTK := Lib.hid htk
      clear htk
      have ix : ∀ W : World, (Instr.index 97 (.agg #[.int .i64 kd, .int .i64 tick, .int .i64 te, .int .i64 ce, .int .i64 ot, .int .i64 ep, .int .i64 fr, .int .i64 un, .int .i64 n]) (.int .i64 1)).run Try.prog W = .ok (.int .i64 tick) W := fun _ => by kernel_rfl
      go_wp2_with fail
      refine (int_any A' p.length c' tick p _ _ O3.out.len.2 rfl O3.out.rd (Nat.le_refl _) B1.out.1 B1.out.2 (by omega)).mono ?_
      rintro e w4 ⟨A4, c4, rfl, o4, f4⟩
      have O4 := Lib.hid (o4.mono (G := fun i => w.heap.size ≤ i) fun i hi => by omega)
      have F4 := Lib.hid (F3.out.transNo f4)
      clear o4 f4
      go_wp2_with fail
      go_roundw
      case rel =>
        refine ⟨A4, c4, 2, p ++ encN (codeN tick), by omega, rfl, HTK.out.symm, by rw [List.length_append]; omega, ?_, ?_, F4.out⟩
        · rw [List.length_append]
        · rw [List.length_append]; exact O4.out
      case measure => simp [intOf]
    · have hen1 := encN_len10 _ (codeN_lt te B2.out.1 B2.out.2)
      have htk : intsF (L.take 3) = p ++ encN (codeN te) := by rw [HP.out, HL.out, ← intsF_snoc]; rfl
      have HTK := Lib.hid htk
      clear htk
      have ix : ∀ W : World, (Instr.index 97 (.agg #[.int .i64 kd, .int .i64 tick, .int .i64 te, .int .i64 ce, .int .i64 ot, .int .i64 ep, .int .i64 fr, .int .i64 un, .int .i64 n]) (.int .i64 2)).run Try.prog W = .ok (.int .i64 te) W := fun _ => by kernel_rfl
      go_wp2_with fail
      refine (int_any A' p.length c' te p _ _ O3.out.len.2 rfl O3.out.rd (Nat.le_refl _) B2.out.1 B2.out.2 (by omega)).mono ?_
      rintro e w4 ⟨A4, c4, rfl, o4, f4⟩
      have O4 := Lib.hid (o4.mono (G := fun i => w.heap.size ≤ i) fun i hi => by omega)
      have F4 := Lib.hid (F3.out.transNo f4)
      clear o4 f4
      go_wp2_with fail
      go_roundw
      case rel =>
        refine ⟨A4, c4, 3, p ++ encN (codeN te), by omega, rfl, HTK.out.symm, by rw [List.length_append]; omega, ?_, ?_, F4.out⟩
        · rw [List.length_append]
        · rw [List.length_append]; exact O4.out
      case measure => simp [intOf]
    · have hen1 := encN_len10 _ (codeN_lt ce B3.out.1 B3.out.2)
      have htk : intsF (L.take 4) = p ++ encN (codeN ce) := by rw [HP.out, HL.out, ← intsF_snoc]; rfl
      have HTK := Lib.hid htk
      clear htk
      have ix : ∀ W : World, (Instr.index 97 (.agg #[.int .i64 kd, .int .i64 tick, .int .i64 te, .int .i64 ce, .int .i64 ot, .int .i64 ep, .int .i64 fr, .int .i64 un, .int .i64 n]) (.int .i64 3)).run Try.prog W = .ok (.int .i64 ce) W := fun _ => by kernel_rfl
      go_wp2_with fail
      refine (int_any A' p.length c' ce p _ _ O3.out.len.2 rfl O3.out.rd (Nat.le_refl _) B3.out.1 B3.out.2 (by omega)).mono ?_
      rintro e w4 ⟨A4, c4, rfl, o4, f4⟩
      have O4 := Lib.hid (o4.mono (G := fun i => w.heap.size ≤ i) fun i hi => by omega)
      have F4 := Lib.hid (F3.out.transNo f4)
      clear o4 f4
      go_wp2_with fail
      go_roundw
      case rel =>
        refine ⟨A4, c4, 4, p ++ encN (codeN ce), by omega, rfl, HTK.out.symm, by rw [List.length_append]; omega, ?_, ?_, F4.out⟩
        · rw [List.length_append]
        · rw [List.length_append]; exact O4.out
      case measure => simp [intOf]
    · have hen1 := encN_len10 _ (codeN_lt ot B4.out.1 B4.out.2)
      have htk : intsF (L.take 5) = p ++ encN (codeN ot) := by rw [HP.out, HL.out, ← intsF_snoc]; rfl
      have HTK := Lib.hid htk
      clear htk
      have ix : ∀ W : World, (Instr.index 97 (.agg #[.int .i64 kd, .int .i64 tick, .int .i64 te, .int .i64 ce, .int .i64 ot, .int .i64 ep, .int .i64 fr, .int .i64 un, .int .i64 n]) (.int .i64 4)).run Try.prog W = .ok (.int .i64 ot) W := fun _ => by kernel_rfl
      go_wp2_with fail
      refine (int_any A' p.length c' ot p _ _ O3.out.len.2 rfl O3.out.rd (Nat.le_refl _) B4.out.1 B4.out.2 (by omega)).mono ?_
      rintro e w4 ⟨A4, c4, rfl, o4, f4⟩
      have O4 := Lib.hid (o4.mono (G := fun i => w.heap.size ≤ i) fun i hi => by omega)
      have F4 := Lib.hid (F3.out.transNo f4)
      clear o4 f4
      go_wp2_with fail
      go_roundw
      case rel =>
        refine ⟨A4, c4, 5, p ++ encN (codeN ot), by omega, rfl, HTK.out.symm, by rw [List.length_append]; omega, ?_, ?_, F4.out⟩
        · rw [List.length_append]
        · rw [List.length_append]; exact O4.out
      case measure => simp [intOf]
    · have hen1 := encN_len10 _ (codeN_lt ep B5.out.1 B5.out.2)
      have htk : intsF (L.take 6) = p ++ encN (codeN ep) := by rw [HP.out, HL.out, ← intsF_snoc]; rfl
      have HTK := Lib.hid htk
      clear htk
      have ix : ∀ W : World, (Instr.index 97 (.agg #[.int .i64 kd, .int .i64 tick, .int .i64 te, .int .i64 ce, .int .i64 ot, .int .i64 ep, .int .i64 fr, .int .i64 un, .int .i64 n]) (.int .i64 5)).run Try.prog W = .ok (.int .i64 ep) W := fun _ => by kernel_rfl
      go_wp2_with fail
      refine (int_any A' p.length c' ep p _ _ O3.out.len.2 rfl O3.out.rd (Nat.le_refl _) B5.out.1 B5.out.2 (by omega)).mono ?_
      rintro e w4 ⟨A4, c4, rfl, o4, f4⟩
      have O4 := Lib.hid (o4.mono (G := fun i => w.heap.size ≤ i) fun i hi => by omega)
      have F4 := Lib.hid (F3.out.transNo f4)
      clear o4 f4
      go_wp2_with fail
      go_roundw
      case rel =>
        refine ⟨A4, c4, 6, p ++ encN (codeN ep), by omega, rfl, HTK.out.symm, by rw [List.length_append]; omega, ?_, ?_, F4.out⟩
        · rw [List.length_append]
        · rw [List.length_append]; exact O4.out
      case measure => simp [intOf]
    · have hen1 := encN_len10 _ (codeN_lt fr B6.out.1 B6.out.2)
      have htk : intsF (L.take 7) = p ++ encN (codeN fr) := by rw [HP.out, HL.out, ← intsF_snoc]; rfl
      have HTK := Lib.hid htk
      clear htk
      have ix : ∀ W : World, (Instr.index 97 (.agg #[.int .i64 kd, .int .i64 tick, .int .i64 te, .int .i64 ce, .int .i64 ot, .int .i64 ep, .int .i64 fr, .int .i64 un, .int .i64 n]) (.int .i64 6)).run Try.prog W = .ok (.int .i64 fr) W := fun _ => by kernel_rfl
      go_wp2_with fail
      refine (int_any A' p.length c' fr p _ _ O3.out.len.2 rfl O3.out.rd (Nat.le_refl _) B6.out.1 B6.out.2 (by omega)).mono ?_
      rintro e w4 ⟨A4, c4, rfl, o4, f4⟩
      have O4 := Lib.hid (o4.mono (G := fun i => w.heap.size ≤ i) fun i hi => by omega)
      have F4 := Lib.hid (F3.out.transNo f4)
      clear o4 f4
      go_wp2_with fail
      go_roundw
      case rel =>
        refine ⟨A4, c4, 7, p ++ encN (codeN fr), by omega, rfl, HTK.out.symm, by rw [List.length_append]; omega, ?_, ?_, F4.out⟩
        · rw [List.length_append]
        · rw [List.length_append]; exact O4.out
      case measure => simp [intOf]
    · have hen1 := encN_len10 _ (codeN_lt un B7.out.1 B7.out.2)
      have htk : intsF (L.take 8) = p ++ encN (codeN un) := by rw [HP.out, HL.out, ← intsF_snoc]; rfl
      have HTK := Lib.hid htk
      clear htk
      have ix : ∀ W : World, (Instr.index 97 (.agg #[.int .i64 kd, .int .i64 tick, .int .i64 te, .int .i64 ce, .int .i64 ot, .int .i64 ep, .int .i64 fr, .int .i64 un, .int .i64 n]) (.int .i64 7)).run Try.prog W = .ok (.int .i64 un) W := fun _ => by kernel_rfl
      go_wp2_with fail
      refine (int_any A' p.length c' un p _ _ O3.out.len.2 rfl O3.out.rd (Nat.le_refl _) B7.out.1 B7.out.2 (by omega)).mono ?_
      rintro e w4 ⟨A4, c4, rfl, o4, f4⟩
      have O4 := Lib.hid (o4.mono (G := fun i => w.heap.size ≤ i) fun i hi => by omega)
      have F4 := Lib.hid (F3.out.transNo f4)
      clear o4 f4
      go_wp2_with fail
      go_roundw
      case rel =>
        refine ⟨A4, c4, 8, p ++ encN (codeN un), by omega, rfl, HTK.out.symm, by rw [List.length_append]; omega, ?_, ?_, F4.out⟩
        · rw [List.length_append]
        · rw [List.length_append]; exact O4.out
      case measure => simp [intOf]
    · have hen1 := encN_len10 _ (codeN_lt n B8.out.1 B8.out.2)
      have htk : intsF (L.take 9) = p ++ encN (codeN n) := by rw [HP.out, HL.out, ← intsF_snoc]; rfl
      have HTK := Lib.hid htk
      clear htk
      have ix : ∀ W : World, (Instr.index 97 (.agg #[.int .i64 kd, .int .i64 tick, .int .i64 te, .int .i64 ce, .int .i64 ot, .int .i64 ep, .int .i64 fr, .int .i64 un, .int .i64 n]) (.int .i64 8)).run Try.prog W = .ok (.int .i64 n) W := fun _ => by kernel_rfl
      go_wp2_with fail
      refine (int_any A' p.length c' n p _ _ O3.out.len.2 rfl O3.out.rd (Nat.le_refl _) B8.out.1 B8.out.2 (by omega)).mono ?_
      rintro e w4 ⟨A4, c4, rfl, o4, f4⟩
      have O4 := Lib.hid (o4.mono (G := fun i => w.heap.size ≤ i) fun i hi => by omega)
      have F4 := Lib.hid (F3.out.transNo f4)
      clear o4 f4
      go_wp2_with fail
      go_roundw
      case rel =>
        refine ⟨A4, c4, 9, p ++ encN (codeN n), by omega, rfl, HTK.out.symm, by rw [List.length_append]; omega, ?_, ?_, F4.out⟩
        · rw [List.length_append]
        · rw [List.length_append]; exact O4.out
      case measure => simp [intOf]
    · have hpe : p = E := by rw [HP.out, HEND.out]
      subst hpe
      go_wp2_with fail
      go_ret
      exact ⟨A', c', rfl, O3.out, HF.out.transNo F3.out⟩

end Go.Proofs.Ytneeajegegmigaa
