/-
  The contracts of package wire's integers.
-/
import Derived.Test.YtneeajegegmigaaFr
import Derived.Test.YtneeajegegmigaaWirP
import Derived.Laws.MakeOwn
import Derived.Laws.Bits64
namespace Go.Proofs.Ytneeajegegmigaa
open Go.ChangeShapes Go.WideShapes Go.ChangeAt Go.RowKit

theorem not_u64 (x : Int) (h0 : 0 ≤ x) (h1 : x < 18446744073709551616) : bits BinOp.xor IntKind.u64 IntKind.u64.max x = 18446744073709551615 - x := by
  show IntKind.u64.wrap ((BitVec.ofInt 64 18446744073709551615 ^^^ BitVec.ofInt 64 x).toNat : Int) = _
  have e : BitVec.ofInt 64 18446744073709551615 = BitVec.allOnes 64 := by decide
  rw [e, BitVec.allOnes_xor, BitVec.toNat_not, IntKind.wrap_u64]
  have : (BitVec.ofInt 64 x).toNat = x.toNat := by rw [BitVec.toNat_ofInt]; omega
  rw [this]
  omega

theorem code_any (n : Int) (w : World) (h1 : -9223372036854775808 ≤ n) (h2 : n ≤ 9223372036854775807) :
    Calls Try.prog 74 #[.int .i64 n] w fun e w' => e = .returned (.int .u64 (codeN n : Int)) ∧ w = w' := by
  by_cases hn : n < 0
  · go_enter Try.func74, Try.ntmps74
    go_wp2
    go_ret
    refine ⟨ret_int ?_, rfl⟩
    have e1 : IntKind.u64.wrap (IntKind.u64.wrap n * 2) = 2 * n + 18446744073709551616 := by
      rw [IntKind.wrap_u64, IntKind.wrap_u64]
      omega
    rw [e1, not_u64 _ (by omega) (by omega)]
    unfold codeN
    rw [if_neg (by omega)]
    omega
  · go_enter Try.func74, Try.ntmps74
    go_wp2
    go_ret
    refine ⟨ret_int ?_, rfl⟩
    unfold codeN
    rw [if_pos (by omega)]
    omega

theorem copied_any (A : Option Addr) (n c m : Nat) (l : List UInt8) (w : World) (B : Nat) (hA : A = none → n = 0) (hl : l.length = n) (hr : Rd w B A (l.map bv)) (hB : B ≤ w.heap.size) (hsz : n + m ≤ 281474976710656) (hn : n ≤ 225100000000000) :
    Calls Try.prog 69 #[.slice A n c, .int .i64 (m : Int)] w fun e w' => ∃ A' c', e = .returned (.slice A' n c') ∧ Own w' (fun i => w.heap.size ≤ i) 5 (.slice A' n c') (l.map bv) ∧ Fr No w w' := by
  obtain ⟨i0, hi0, hz0, hz1, hz2⟩ := info_parts bytes_info
  obtain ⟨w1, hrun, hown, hgrow⟩ := run_make_own (P := Try.prog) (w := w) 0 85 5 i0 _ 1 Try.underlying85 hi0 hz0 hz1 .i64 .i64 (n + m) (by rw [hz2]; omega) (by unfold maxLen; omega) (Nat.zero_le _)
  have hm1 : Own w1 (fun i => w.heap.size ≤ i) 5 (.slice (some ⟨w.heap.size, 0, none⟩) 0 (n + m)) [] := ⟨hown, fun g hg => by simp [Value.ownBlock] at hg; omega⟩
  have hf1 : Fr No w w1 := (Fr.refl No w).grown hgrow (fun k hk => by cases hk)
  rw [Int.natCast_add] at hrun
  have O1 := Lib.hid hm1
  have F1 := Lib.hid hf1
  have HA := Lib.hid hA
  have HL := Lib.hid hl
  have HR := Lib.hid hr
  have hs1 : w.heap.size ≤ w1.heap.size := hf1.size
  clear hm1 hf1 hA hl hr hown hgrow
  go_enter Try.func69, Try.ntmps69
  go_wp2_with (at_builtin; refine wpList_append_rd _ rfl (.tmp 9) (.tmp 10) _ rfl 0 5 i0 _ 1 Try.underlying85 hi0 hz0 hz1 hz2 rfl _ 0 [] rfl O1.out.1 B A n c (l.map bv) rfl ?c1 ?c2 ?c3 (bv_one l) ?c4 ?c5 (Nat.zero_le _) ?_)
  case c1 => exact HA.out
  case c2 => exact HR.out.frNo F1.out hB
  case c3 => rw [List.length_map, HL.out]
  case c4 => unfold maxLen; omega
  case c5 => omega
  intro v2 w2 happ
  obtain ⟨o2, f2⟩ := O1.out.appendedNew hs1 rfl (by rw [List.length_map, HL.out]) happ
  rw [List.nil_append] at o2
  obtain ⟨A2, c2, rfl, n2⟩ := o2.form
  rw [List.length_map, HL.out] at o2 ⊢
  have O2 := Lib.hid o2
  have F2 := Lib.hid (F1.out.transNew f2 fun i hi => hi)
  clear happ o2 f2 n2
  go_wp2
  go_ret
  exact ⟨A2, c2, rfl, O2.out, F2.out⟩

theorem or128 (x : Nat) (h : x < 256) : bits BinOp.or IntKind.u8 (x : Int) 128 = ((x % 128 + 128 : Nat) : Int) := by
  have : ∀ y : Fin 256, bits BinOp.or IntKind.u8 ((y.val : Nat) : Int) 128 = ((y.val % 128 + 128 : Nat) : Int) := by decide +kernel
  exact this ⟨x, h⟩

set_option maxHeartbeats 1000000 in
theorem put_any (A : Option Addr) (n c : Nat) (k : Int) (l : List UInt8) (w : World) (F : Nat → Prop) (hn : l.length = n) (ho : Own w F 5 (.slice A n c) (l.map bv)) (hk1 : -9223372036854775808 ≤ k) (hk2 : k ≤ 9223372036854775807) (hsz : n ≤ 225000000000000) :
    Calls Try.prog 68 #[.slice A n c, .int .i64 k] w fun e w' => ∃ A' c', e = .returned (.slice A' (n + (encN (codeN k)).length) c') ∧ Own w' (fun i => F i ∨ w.heap.size ≤ i) 5 (.slice A' (n + (encN (codeN k)).length) c') ((l ++ encN (codeN k)).map bv) ∧ Fr F w w' := by
  obtain ⟨i0, hi0, hz0, hz1, hz2⟩ := info_parts bytes_info
  have hcl := codeN_lt k hk1 hk2
  have hel := encN_len10 _ hcl
  generalize hu0 : codeN k = u0 at *
  have HU := Lib.hid hu0
  have HO := Lib.hid ho
  have HN := Lib.hid hn
  clear ho hn hu0
  go_enter Try.func68, Try.ntmps68
  go_wp2_with fail
  refine (code_any _ _ hk1 hk2).mono ?_
  rintro e w1 ⟨rfl, rfl⟩
  rw [HU.out]
  go_wp2_with fail
  go_loopw [0, 5] (fun b i wr => ∃ (A' : Option Addr) (c' : Nat) (p : List UInt8) (u : Nat), b = .slice A' (n + p.length) c' ∧ i = .int .u64 (u : Int) ∧ u ≤ u0 ∧ encN u0 = p ++ encN u ∧ Own wr (fun i => F i ∨ w.heap.size ≤ i) 5 (.slice A' (n + p.length) c') ((l ++ p).map bv) ∧ Fr F w wr) (fun _ i _ => (intOf i).toNat)
  case atStart => exact ⟨A, c, [], u0, rfl, rfl, Nat.le_refl _, rfl, by simpa using HO.out.mono fun i hi => .inl hi, Fr.refl _ _⟩
  case round =>
    obtain ⟨A', c', p, u, rfl, rfl, hu, he, ho, hf⟩ := hrel
    have HE := Lib.hid he
    have O1 := Lib.hid ho
    have F1 := Lib.hid hf
    have hpl : p.length ≤ 10 := by have := congrArg List.length he; rw [List.length_append] at this; omega
    have hs1 : w.heap.size ≤ wr.heap.size := hf.size
    clear he ho hf
    by_cases hlt : u < 128
    · have ht : decide ((128 : Int) ≤ (u : Int)) = false := by simp; omega
      have hb : [Value.int .u8 (u : Int)] = [UInt8.ofNat u].map bv := by
        simp only [List.map_cons, List.map_nil, bv, UInt8.toNat_ofNat']
        rw [show u % 2 ^ 8 = u from by omega]
      have HB := Lib.hid hb
      have P1 := Lib.hid (O1.out.frNo (fr_alloc wr (.cells #[.int .u8 (u : Int)] 5)))
      clear hb
      go_wp2_with (at_builtin; refine wpList_append_rd _ rfl (.tmp 18) (.tmp 21) _ rfl 0 5 i0 _ 1 Try.underlying85 hi0 hz0 hz1 hz2 rfl _ (n + p.length) ((l ++ p).map bv) rfl ?c0 (wr.heap.size + 1) _ 1 1 ([UInt8.ofNat u].map bv) rfl (fun h => by cases h) ?c1 rfl (bv_one _) ?c4 ?c5 (Nat.zero_le _) ?_)
      case c0 => exact P1.out.own (by rw [List.length_map, List.length_append, HN.out])
      case c1 => exact Rd.new wr [.int .u8 (u : Int)] 5 HB.out
      case c4 => unfold maxLen; omega
      case c5 => omega
      intro v2 w2 happ
      obtain ⟨o2, f2⟩ := P1.out.appendedF (n := n + p.length) (m := 1) (news := [bv (UInt8.ofNat u)]) (v' := v2) (w' := w2) (by simp; omega) (by rw [List.length_map, List.length_append, HN.out]) rfl (by simpa using happ)
      have e2 : (l ++ p).map bv ++ [bv (UInt8.ofNat u)] = (l ++ encN u0).map bv := by rw [HE.out, encN_lt u hlt]; simp
      have hl2 : ((l ++ encN u0).map bv).length = n + (encN u0).length := by rw [List.length_map, List.length_append, HN.out]
      rw [e2] at o2
      obtain ⟨A2, c2, rfl, n2⟩ := o2.form
      rw [hl2] at o2 ⊢
      have O2 := Lib.hid o2
      have F2 := Lib.hid ((F1.out.alloc (.cells #[.int .u8 (u : Int)] 5)).transF f2)
      clear happ o2 f2 n2 e2 hl2
      go_wp2_with fail
      go_ret
      exact ⟨A2, c2, rfl, O2.out, F2.out⟩
    · have ht : decide ((128 : Int) ≤ (u : Int)) = true := by simp; omega
      have hor : bits BinOp.or IntKind.u8 ((u : Int) % 256) 128 = ((u % 128 + 128 : Nat) : Int) := by
        have h1 := or128 (u % 256) (by omega)
        rw [show (((u % 256 : Nat)) : Int) = (u : Int) % 256 from by omega] at h1
        rw [h1]
        omega
      have hb : [Value.int .u8 (bits BinOp.or IntKind.u8 ((u : Int) % 256) 128)] = [UInt8.ofNat (u % 128 + 128)].map bv := by
        rw [hor]
        simp only [List.map_cons, List.map_nil, bv, UInt8.toNat_ofNat']
        rw [show (u % 128 + 128) % 2 ^ 8 = u % 128 + 128 from by omega]
      have HB := Lib.hid hb
      have P1 := Lib.hid (O1.out.frNo (fr_alloc wr (.cells #[.int .u8 (bits BinOp.or IntKind.u8 ((u : Int) % 256) 128)] 5)))
      clear hb hor
      go_wp2_with (at_builtin; refine wpList_append_rd _ rfl (.tmp 10) (.tmp 14) _ rfl 0 5 i0 _ 1 Try.underlying85 hi0 hz0 hz1 hz2 rfl _ (n + p.length) ((l ++ p).map bv) rfl ?c0 (wr.heap.size + 1) _ 1 1 ([UInt8.ofNat (u % 128 + 128)].map bv) rfl (fun h => by cases h) ?c1 rfl (bv_one _) ?c4 ?c5 (Nat.zero_le _) ?_)
      case c0 => exact P1.out.own (by rw [List.length_map, List.length_append, HN.out])
      case c1 => exact Rd.new wr [.int .u8 (bits BinOp.or IntKind.u8 ((u : Int) % 256) 128)] 5 HB.out
      case c4 => unfold maxLen; omega
      case c5 => omega
      intro v2 w2 happ
      obtain ⟨o2, f2⟩ := P1.out.appendedF (n := n + p.length) (m := 1) (news := [bv (UInt8.ofNat (u % 128 + 128))]) (v' := v2) (w' := w2) (by simp; omega) (by rw [List.length_map, List.length_append, HN.out]) rfl (by simpa using happ)
      have e2 : (l ++ p).map bv ++ [bv (UInt8.ofNat (u % 128 + 128))] = (l ++ (p ++ [UInt8.ofNat (u % 128 + 128)])).map bv := by simp
      have hl2 : ((l ++ (p ++ [UInt8.ofNat (u % 128 + 128)])).map bv).length = n + (p.length + 1) := by simp [HN.out]
      rw [e2] at o2
      obtain ⟨A2, c2, rfl, n2⟩ := o2.form
      rw [hl2] at o2 ⊢
      have O2 := Lib.hid o2
      have F2 := Lib.hid ((F1.out.alloc (.cells #[.int .u8 (bits BinOp.or IntKind.u8 ((u : Int) % 256) 128)] 5)).transF f2)
      clear happ o2 f2 n2 e2 hl2
      go_wp2_with fail
      go_roundw
      case rel =>
        refine ⟨A2, c2, p ++ [UInt8.ofNat (u % 128 + 128)], u / 128, ?_, ?_, by omega, ?_, ?_, F2.out⟩
        · simp
        · go_num
        · rw [HE.out, encN_ge u hlt]; simp
        · rw [List.length_append]; exact O2.out
      case measure => simp [intOf]; omega

theorem int_any (A : Option Addr) (n c : Nat) (k : Int) (l : List UInt8) (w : World) (B : Nat) (hA : A = none → n = 0) (hl : l.length = n) (hr : Rd w B A (l.map bv)) (hB : B ≤ w.heap.size) (hk1 : -9223372036854775808 ≤ k) (hk2 : k ≤ 9223372036854775807) (hsz : n ≤ 225000000000000) :
    Calls Try.prog 64 #[.slice A n c, .int .i64 k] w fun e w' => ∃ A' c', e = .returned (.slice A' (n + (encN (codeN k)).length) c') ∧ Own w' (fun i => w.heap.size ≤ i) 5 (.slice A' (n + (encN (codeN k)).length) c') ((l ++ encN (codeN k)).map bv) ∧ Fr No w w' := by
  have HA := Lib.hid hA
  have HL := Lib.hid hl
  have HR := Lib.hid hr
  clear hA hl hr
  go_enter Try.func64, Try.ntmps64
  go_wp2_with fail
  refine (copied_any A n c 10 l _ B HA.out HL.out HR.out hB (by omega) (by omega)).mono ?_
  rintro e w1 ⟨A1, c1, rfl, o1, f1⟩
  have O1 := Lib.hid o1
  have F1 := Lib.hid f1
  clear o1 f1
  go_wp2_with fail
  refine (put_any A1 n c1 k l _ _ HL.out O1.out hk1 hk2 hsz).mono ?_
  rintro e w2 ⟨A2, c2, rfl, o2, f2⟩
  have hs := F1.out.size
  have O2 := Lib.hid (o2.mono (G := fun i => w.heap.size ≤ i) fun i hi => by rcases hi with hi | hi <;> omega)
  have F2 := Lib.hid (F1.out.transNew f2 fun i hi => hi)
  clear o2 f2 hs
  go_wp2_with fail
  go_ret
  exact ⟨A2, c2, rfl, O2.out, F2.out⟩
end Go.Proofs.Ytneeajegegmigaa
