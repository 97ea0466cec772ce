/-
  The contracts of the wire's reference: code, Int.
-/
import Derived.Test.YtoiiblopnchljaaWir
namespace Go.Proofs.Ytoiiblopnchljaa
open Go.ChangeShapes Go.WideShapes Go.ChangeAt Go.RowKit

theorem rcode_any (n : Int) (w : World) (h1 : -9223372036854775808 ≤ n) (h2 : n ≤ 9223372036854775807) :
    Calls Try.prog 82 #[.int .i64 n] w fun e w' => e = .returned (.int .u64 (codeN n : Int)) ∧ w = w' := by
  by_cases hn : n < 0
  · go_enter Try.func82, Try.ntmps82
    go_wp2
    go_ret
    refine ⟨ret_int ?_, rfl⟩
    unfold codeN
    rw [if_neg (by omega)]
    omega
  · go_enter Try.func82, Try.ntmps82
    go_wp2
    go_ret
    refine ⟨ret_int ?_, rfl⟩
    unfold codeN
    rw [if_pos (by omega)]
    omega

set_option maxHeartbeats 1000000 in
theorem rint_any (A : Option Addr) (n c : Nat) (k : Int) (l : List UInt8) (w : World) (B : Nat) (hA : A = none → n = 0) (hl : l.length = n) (hr : Rd w B A (l.map bv)) (hB : B ≤ w.heap.size) (hk1 : -9223372036854775808 ≤ k) (hk2 : k ≤ 9223372036854775807) (hsz : n ≤ 225000000000000) :
    Calls Try.prog 57 #[.slice A n c, .int .i64 k] w fun e w' => ∃ A' c', e = .returned (.slice A' (n + (encN (codeN k)).length) c') ∧ Own w' (fun i => w.heap.size ≤ i) 5 (.slice A' (n + (encN (codeN k)).length) c') ((l ++ encN (codeN k)).map bv) ∧ Fr No w w' := by
  obtain ⟨i0, hi0, hz0, hz1, hz2⟩ := info_parts bytes_info
  have hcl := codeN_lt k hk1 hk2
  have hel := encN_len10 _ hcl
  generalize hu0 : codeN k = u0 at *
  have HU := Lib.hid hu0
  have HA := Lib.hid hA
  have HN := Lib.hid hl
  have HR := Lib.hid hr
  clear hA hl hr hu0
  go_enter Try.func57, Try.ntmps57
  go_wp2_with (at_builtin; refine wpList_append_rd _ rfl (.tmp 7) (.tmp 8) _ rfl 0 5 i0 _ 1 Try.underlying52 hi0 hz0 hz1 hz2 rfl _ 0 [] rfl (Own.made w 5).1 B A n c (l.map bv) rfl ?c1 ?c2 ?c3 (bv_one l) ?c4 ?c5 (Nat.zero_le _) ?_)
  case c1 => exact HA.out
  case c2 => exact HR.out.frNo (fr_alloc _ _) hB
  case c3 => rw [List.length_map, HN.out]
  case c4 => unfold maxLen; omega
  case c5 => omega
  intro v0 w0 happ
  obtain ⟨o0, f0⟩ := (Own.made w 5).appendedNew (by simp) rfl (by rw [List.length_map, HN.out]) happ
  rw [List.nil_append] at o0
  obtain ⟨A0, c0, rfl, n0⟩ := o0.form
  rw [List.length_map, HN.out] at o0 ⊢
  have O0 := Lib.hid o0
  have F0 := Lib.hid ((fr_alloc w (.cells #[] 5)).transNew f0 fun i hi => hi)
  clear happ o0 f0 n0
  go_wp2_with fail
  refine (rcode_any _ _ hk1 hk2).mono ?_
  rintro e w1 ⟨rfl, rfl⟩
  rw [HU.out]
  go_wp2_with fail
  go_loopw [5, 6] (fun b i wr => ∃ (A' : Option Addr) (c' : Nat) (p : List UInt8) (u : Nat), b = .slice A' (n + p.length) c' ∧ i = .int .u64 (u : Int) ∧ u ≤ u0 ∧ encN u0 = p ++ encN u ∧ Own wr (fun i => w.heap.size ≤ i) 5 (.slice A' (n + p.length) c') ((l ++ p).map bv) ∧ Fr No w wr) (fun _ i _ => (intOf i).toNat)
  case atStart => exact ⟨A0, c0, [], u0, rfl, rfl, Nat.le_refl _, rfl, by simpa using O0.out, F0.out⟩
  case round =>
    obtain ⟨A', c', p, u, rfl, rfl, hu, he, ho, hf⟩ := hrel
    have HE := Lib.hid he
    have O1 := Lib.hid ho
    have F1 := Lib.hid hf
    have hpl : p.length ≤ 10 := by have := congrArg List.length he; rw [List.length_append] at this; omega
    have hs1 : w.heap.size ≤ wr.heap.size := hf.size
    clear he ho hf
    by_cases hlt : u < 128
    · have ht : decide ((128 : Int) ≤ (u : Int)) = false := by simp; omega
      have hb : [Value.int .u8 (u : Int)] = [UInt8.ofNat u].map bv := by
        simp only [List.map_cons, List.map_nil, bv, UInt8.toNat_ofNat']
        rw [show u % 2 ^ 8 = u from by omega]
      have HB := Lib.hid hb
      have P1 := Lib.hid (O1.out.frNo (fr_alloc wr (.cells #[.int .u8 (u : Int)] 5)))
      clear hb
      go_wp2_with (at_builtin; refine wpList_append_rd _ rfl (.tmp 23) (.tmp 26) _ rfl 0 5 i0 _ 1 Try.underlying52 hi0 hz0 hz1 hz2 rfl _ (n + p.length) ((l ++ p).map bv) rfl ?c0 (wr.heap.size + 1) _ 1 1 ([UInt8.ofNat u].map bv) rfl (fun h => by cases h) ?c1 rfl (bv_one _) ?c4 ?c5 (Nat.zero_le _) ?_)
      case c0 => exact P1.out.own (by rw [List.length_map, List.length_append, HN.out])
      case c1 => exact Rd.new wr [.int .u8 (u : Int)] 5 HB.out
      case c4 => unfold maxLen; omega
      case c5 => omega
      intro v2 w2 happ
      obtain ⟨o2, f2⟩ := P1.out.appendedNew (n := n + p.length) (m := 1) (news := [bv (UInt8.ofNat u)]) (v' := v2) (w' := w2) (by simp; omega) (by rw [List.length_map, List.length_append, HN.out]) rfl (by simpa using happ)
      have e2 : (l ++ p).map bv ++ [bv (UInt8.ofNat u)] = (l ++ encN u0).map bv := by rw [HE.out, encN_lt u hlt]; simp
      have hl2 : ((l ++ encN u0).map bv).length = n + (encN u0).length := by rw [List.length_map, List.length_append, HN.out]
      rw [e2] at o2
      obtain ⟨A2, c2, rfl, n2⟩ := o2.form
      rw [hl2] at o2 ⊢
      have O2 := Lib.hid o2
      have F2 := Lib.hid ((F1.out.alloc (.cells #[.int .u8 (u : Int)] 5)).transNew f2 fun i hi => hi)
      clear happ o2 f2 n2 e2 hl2
      go_wp2_with fail
      go_ret
      exact ⟨A2, c2, rfl, O2.out, F2.out⟩
    · have ht : decide ((128 : Int) ≤ (u : Int)) = true := by simp; omega
      have hb : [Value.int .u8 ((u : Int) % 128 + 128)] = [UInt8.ofNat (u % 128 + 128)].map bv := by
        simp only [List.map_cons, List.map_nil, bv, UInt8.toNat_ofNat']
        rw [show ((u : Int) % 128 + 128) = (((u % 128 + 128) % 2 ^ 8 : Nat) : Int) from by omega]
      have HB := Lib.hid hb
      have P1 := Lib.hid (O1.out.frNo (fr_alloc wr (.cells #[.int .u8 ((u : Int) % 128 + 128)] 5)))
      clear hb
      go_wp2_with (at_builtin; refine wpList_append_rd _ rfl (.tmp 14) (.tmp 19) _ rfl 0 5 i0 _ 1 Try.underlying52 hi0 hz0 hz1 hz2 rfl _ (n + p.length) ((l ++ p).map bv) rfl ?c0 (wr.heap.size + 1) _ 1 1 ([UInt8.ofNat (u % 128 + 128)].map bv) rfl (fun h => by cases h) ?c1 rfl (bv_one _) ?c4 ?c5 (Nat.zero_le _) ?_)
      case c0 => exact P1.out.own (by rw [List.length_map, List.length_append, HN.out])
      case c1 => exact Rd.new wr [.int .u8 ((u : Int) % 128 + 128)] 5 HB.out
      case c4 => unfold maxLen; omega
      case c5 => omega
      intro v2 w2 happ
      obtain ⟨o2, f2⟩ := P1.out.appendedNew (n := n + p.length) (m := 1) (news := [bv (UInt8.ofNat (u % 128 + 128))]) (v' := v2) (w' := w2) (by simp; omega) (by rw [List.length_map, List.length_append, HN.out]) rfl (by simpa using happ)
      have e2 : (l ++ p).map bv ++ [bv (UInt8.ofNat (u % 128 + 128))] = (l ++ (p ++ [UInt8.ofNat (u % 128 + 128)])).map bv := by simp
      have hl2 : ((l ++ (p ++ [UInt8.ofNat (u % 128 + 128)])).map bv).length = n + (p.length + 1) := by simp [HN.out]
      rw [e2] at o2
      obtain ⟨A2, c2, rfl, n2⟩ := o2.form
      rw [hl2] at o2 ⊢
      have O2 := Lib.hid o2
      have F2 := Lib.hid ((F1.out.alloc (.cells #[.int .u8 ((u : Int) % 128 + 128)] 5)).transNew f2 fun i hi => hi)
      clear happ o2 f2 n2 e2 hl2
      go_wp2_with fail
      go_roundw
      case rel =>
        refine ⟨A2, c2, p ++ [UInt8.ofNat (u % 128 + 128)], u / 128, ?_, ?_, by omega, ?_, ?_, F2.out⟩
        · simp
        · go_num
        · rw [HE.out, encN_ge u hlt]; simp
        · rw [List.length_append]; exact O2.out
      case measure => simp [intOf]; omega
end Go.Proofs.Ytoiiblopnchljaa
