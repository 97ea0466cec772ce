/-
  Several texts in one: Wir, WirRef, EntB.
-/
import Derived.Test.YtanhbebikcoliaaDoorG2
import Derived.Test.YtanhbebikcoliaaDoorG0
import Derived.Laws.MakeOwn
import Derived.Laws.Bits64
/- The contracts of package wire's integers. -/
namespace Go.Proofs.YtanhbebikcoliaaDoor
open Go.ChangeShapes Go.WideShapes Go.ChangeAt Go.RowKit

theorem not_u64 (x : Int) (h0 : 0 ≤ x) (h1 : x < 18446744073709551616) : bits BinOp.xor IntKind.u64 IntKind.u64.max x = 18446744073709551615 - x := by
  show IntKind.u64.wrap ((BitVec.ofInt 64 18446744073709551615 ^^^ BitVec.ofInt 64 x).toNat : Int) = _
  have e : BitVec.ofInt 64 18446744073709551615 = BitVec.allOnes 64 := by decide
  rw [e, BitVec.allOnes_xor, BitVec.toNat_not, IntKind.wrap_u64]
  have : (BitVec.ofInt 64 x).toNat = x.toNat := by rw [BitVec.toNat_ofInt]; omega
  rw [this]
  omega

theorem code_any (n : Int) (w : World) (h1 : -9223372036854775808 ≤ n) (h2 : n ≤ 9223372036854775807) :
    Calls Tryd.prog 62 #[.int .i64 n] w fun e w' => e = .returned (.int .u64 (codeN n : Int)) ∧ w = w' := by
  by_cases hn : n < 0
  · go_enter Tryd.func62, Tryd.ntmps62
    go_wp2
    go_ret
    refine ⟨ret_int ?_, rfl⟩
    have e1 : IntKind.u64.wrap (IntKind.u64.wrap n * 2) = 2 * n + 18446744073709551616 := by
      rw [IntKind.wrap_u64, IntKind.wrap_u64]
      omega
    rw [e1, not_u64 _ (by omega) (by omega)]
    unfold codeN
    rw [if_neg (by omega)]
    omega
  · go_enter Tryd.func62, Tryd.ntmps62
    go_wp2
    go_ret
    refine ⟨ret_int ?_, rfl⟩
    unfold codeN
    rw [if_pos (by omega)]
    omega

theorem number_any (u : Nat) (w : World) (h1 : u < 18446744073709551616) :
    Calls Tryd.prog 51 #[.int .u64 (u : Int)] w fun e w' => e = .returned (.int .i64 (numN u)) ∧ w = w' := by
  have hand : bits BinOp.and IntKind.u64 (u : Int) 1 = (u : Int) % 2 := and_one_u64 _ (by omega) (by omega)
  by_cases hn : u % 2 = 0
  · have ht : (bits BinOp.and IntKind.u64 (u : Int) 1 == 1) = false := by rw [hand]; simp; omega
    have HN := Lib.hid hn
    clear hand hn
    go_enter Tryd.func51, Tryd.ntmps51
    go_wp2
    go_ret
    refine ⟨ret_int ?_, rfl⟩
    unfold numN
    rw [if_pos HN.out]
    omega
  · have ht : (bits BinOp.and IntKind.u64 (u : Int) 1 == 1) = true := by rw [hand]; simp; omega
    have HN := Lib.hid hn
    clear hand hn
    go_enter Tryd.func51, Tryd.ntmps51
    go_wp2
    go_ret
    refine ⟨ret_int ?_, rfl⟩
    rw [not_u64 _ (by omega) (by omega)]
    unfold numN wrap64
    rw [if_neg HN.out]
    omega

theorem wcopied_any (A : Option Addr) (n c m : Nat) (l : List UInt8) (w : World) (B : Nat) (hA : A = none → n = 0) (hl : l.length = n) (hr : Rd w B A (l.map bv)) (hB : B ≤ w.heap.size) (hsz : n + m ≤ 281474976710656) (hn : n ≤ 225100000000000) :
    Calls Tryd.prog 53 #[.slice A n c, .int .i64 (m : Int)] w fun e w' => ∃ A' c', e = .returned (.slice A' n c') ∧ Own w' (fun i => w.heap.size ≤ i) 5 (.slice A' n c') (l.map bv) ∧ Fr No w w' := by
  obtain ⟨i0, hi0, hz0, hz1, hz2⟩ := info_parts bytes_info
  obtain ⟨w1, hrun, hown, hgrow⟩ := run_make_own (P := Tryd.prog) (w := w) 0 40 5 i0 _ 1 Tryd.underlying40 hi0 hz0 hz1 .i64 .i64 (n + m) (by rw [hz2]; omega) (by unfold maxLen; omega) (Nat.zero_le _)
  have hm1 : Own w1 (fun i => w.heap.size ≤ i) 5 (.slice (some ⟨w.heap.size, 0, none⟩) 0 (n + m)) [] := ⟨hown, fun g hg => by simp [Value.ownBlock] at hg; omega⟩
  have hf1 : Fr No w w1 := (Fr.refl No w).grown hgrow (fun k hk => by cases hk)
  rw [Int.natCast_add] at hrun
  have O1 := Lib.hid hm1
  have F1 := Lib.hid hf1
  have HA := Lib.hid hA
  have HL := Lib.hid hl
  have HR := Lib.hid hr
  have hs1 : w.heap.size ≤ w1.heap.size := hf1.size
  clear hm1 hf1 hA hl hr hown hgrow
  go_enter Tryd.func53, Tryd.ntmps53
  go_wp2_with (at_builtin; refine wpList_append_rd _ rfl (.tmp 9) (.tmp 10) _ rfl 0 5 i0 _ 1 Tryd.underlying40 hi0 hz0 hz1 hz2 rfl _ 0 [] rfl O1.out.1 B A n c (l.map bv) rfl ?c1 ?c2 ?c3 (bv_one l) ?c4 ?c5 (Nat.zero_le _) ?_)
  case c1 => exact HA.out
  case c2 => exact HR.out.frNo F1.out hB
  case c3 => rw [List.length_map, HL.out]
  case c4 => unfold maxLen; omega
  case c5 => omega
  intro v2 w2 happ
  obtain ⟨o2, f2⟩ := O1.out.appendedNew hs1 rfl (by rw [List.length_map, HL.out]) happ
  rw [List.nil_append] at o2
  obtain ⟨A2, c2, rfl, n2⟩ := o2.form
  rw [List.length_map, HL.out] at o2 ⊢
  have O2 := Lib.hid o2
  have F2 := Lib.hid (F1.out.transNew f2 fun i hi => hi)
  clear happ o2 f2 n2
  go_wp2
  go_ret
  exact ⟨A2, c2, rfl, O2.out, F2.out⟩

theorem or128 (x : Nat) (h : x < 256) : bits BinOp.or IntKind.u8 (x : Int) 128 = ((x % 128 + 128 : Nat) : Int) := by
  have : ∀ y : Fin 256, bits BinOp.or IntKind.u8 ((y.val : Nat) : Int) 128 = ((y.val % 128 + 128 : Nat) : Int) := by decide +kernel
  exact this ⟨x, h⟩

set_option maxHeartbeats 1000000 in
theorem put_any (A : Option Addr) (n c : Nat) (k : Int) (l : List UInt8) (w : World) (F : Nat → Prop) (hn : l.length = n) (ho : Own w F 5 (.slice A n c) (l.map bv)) (hk1 : -9223372036854775808 ≤ k) (hk2 : k ≤ 9223372036854775807) (hsz : n ≤ 225000000000000) :
    Calls Tryd.prog 52 #[.slice A n c, .int .i64 k] w fun e w' => ∃ A' c', e = .returned (.slice A' (n + (encN (codeN k)).length) c') ∧ Own w' (fun i => F i ∨ w.heap.size ≤ i) 5 (.slice A' (n + (encN (codeN k)).length) c') ((l ++ encN (codeN k)).map bv) ∧ Fr F w w' := by
  obtain ⟨i0, hi0, hz0, hz1, hz2⟩ := info_parts bytes_info
  have hcl := codeN_lt k hk1 hk2
  have hel := encN_len10 _ hcl
  generalize hu0 : codeN k = u0 at *
  have HU := Lib.hid hu0
  have HO := Lib.hid ho
  have HN := Lib.hid hn
  clear ho hn hu0
  go_enter Tryd.func52, Tryd.ntmps52
  go_wp2_with fail
  refine (code_any _ _ hk1 hk2).mono ?_
  rintro e w1 ⟨rfl, rfl⟩
  rw [HU.out]
  go_wp2_with fail
  go_loopw [0, 5] (fun b i wr => ∃ (A' : Option Addr) (c' : Nat) (p : List UInt8) (u : Nat), b = .slice A' (n + p.length) c' ∧ i = .int .u64 (u : Int) ∧ u ≤ u0 ∧ encN u0 = p ++ encN u ∧ Own wr (fun i => F i ∨ w.heap.size ≤ i) 5 (.slice A' (n + p.length) c') ((l ++ p).map bv) ∧ Fr F w wr) (fun _ i _ => (intOf i).toNat)
  case atStart => exact ⟨A, c, [], u0, rfl, rfl, Nat.le_refl _, rfl, by simpa using HO.out.mono fun i hi => .inl hi, Fr.refl _ _⟩
  case round =>
    obtain ⟨A', c', p, u, rfl, rfl, hu, he, ho, hf⟩ := hrel
    have HE := Lib.hid he
    have O1 := Lib.hid ho
    have F1 := Lib.hid hf
    have hpl : p.length ≤ 10 := by have := congrArg List.length he; rw [List.length_append] at this; omega
    have hs1 : w.heap.size ≤ wr.heap.size := hf.size
    clear he ho hf
    by_cases hlt : u < 128
    · have ht : decide ((128 : Int) ≤ (u : Int)) = false := by simp; omega
      have hb : [Value.int .u8 (u : Int)] = [UInt8.ofNat u].map bv := by
        simp only [List.map_cons, List.map_nil, bv, UInt8.toNat_ofNat']
        rw [show u % 2 ^ 8 = u from by omega]
      have HB := Lib.hid hb
      have P1 := Lib.hid (O1.out.frNo (fr_alloc wr (.cells #[.int .u8 (u : Int)] 5)))
      clear hb
      go_wp2_with (at_builtin; refine wpList_append_rd _ rfl (.tmp 18) (.tmp 21) _ rfl 0 5 i0 _ 1 Tryd.underlying40 hi0 hz0 hz1 hz2 rfl _ (n + p.length) ((l ++ p).map bv) rfl ?c0 (wr.heap.size + 1) _ 1 1 ([UInt8.ofNat u].map bv) rfl (fun h => by cases h) ?c1 rfl (bv_one _) ?c4 ?c5 (Nat.zero_le _) ?_)
      case c0 => exact P1.out.own (by rw [List.length_map, List.length_append, HN.out])
      case c1 => exact Rd.new wr [.int .u8 (u : Int)] 5 HB.out
      case c4 => unfold maxLen; omega
      case c5 => omega
      intro v2 w2 happ
      obtain ⟨o2, f2⟩ := P1.out.appendedF (n := n + p.length) (m := 1) (news := [bv (UInt8.ofNat u)]) (v' := v2) (w' := w2) (by simp; omega) (by rw [List.length_map, List.length_append, HN.out]) rfl (by simpa using happ)
      have e2 : (l ++ p).map bv ++ [bv (UInt8.ofNat u)] = (l ++ encN u0).map bv := by rw [HE.out, encN_lt u hlt]; simp
      have hl2 : ((l ++ encN u0).map bv).length = n + (encN u0).length := by rw [List.length_map, List.length_append, HN.out]
      rw [e2] at o2
      obtain ⟨A2, c2, rfl, n2⟩ := o2.form
      rw [hl2] at o2 ⊢
      have O2 := Lib.hid o2
      have F2 := Lib.hid ((F1.out.alloc (.cells #[.int .u8 (u : Int)] 5)).transF f2)
      clear happ o2 f2 n2 e2 hl2
      go_wp2_with fail
      go_ret
      exact ⟨A2, c2, rfl, O2.out, F2.out⟩
    · have ht : decide ((128 : Int) ≤ (u : Int)) = true := by simp; omega
      have hor : bits BinOp.or IntKind.u8 ((u : Int) % 256) 128 = ((u % 128 + 128 : Nat) : Int) := by
        have h1 := or128 (u % 256) (by omega)
        rw [show (((u % 256 : Nat)) : Int) = (u : Int) % 256 from by omega] at h1
        rw [h1]
        omega
      have hb : [Value.int .u8 (bits BinOp.or IntKind.u8 ((u : Int) % 256) 128)] = [UInt8.ofNat (u % 128 + 128)].map bv := by
        rw [hor]
        simp only [List.map_cons, List.map_nil, bv, UInt8.toNat_ofNat']
        rw [show (u % 128 + 128) % 2 ^ 8 = u % 128 + 128 from by omega]
      have HB := Lib.hid hb
      have P1 := Lib.hid (O1.out.frNo (fr_alloc wr (.cells #[.int .u8 (bits BinOp.or IntKind.u8 ((u : Int) % 256) 128)] 5)))
      clear hb hor
      go_wp2_with (at_builtin; refine wpList_append_rd _ rfl (.tmp 10) (.tmp 14) _ rfl 0 5 i0 _ 1 Tryd.underlying40 hi0 hz0 hz1 hz2 rfl _ (n + p.length) ((l ++ p).map bv) rfl ?c0 (wr.heap.size + 1) _ 1 1 ([UInt8.ofNat (u % 128 + 128)].map bv) rfl (fun h => by cases h) ?c1 rfl (bv_one _) ?c4 ?c5 (Nat.zero_le _) ?_)
      case c0 => exact P1.out.own (by rw [List.length_map, List.length_append, HN.out])
      case c1 => exact Rd.new wr [.int .u8 (bits BinOp.or IntKind.u8 ((u : Int) % 256) 128)] 5 HB.out
      case c4 => unfold maxLen; omega
      case c5 => omega
      intro v2 w2 happ
      obtain ⟨o2, f2⟩ := P1.out.appendedF (n := n + p.length) (m := 1) (news := [bv (UInt8.ofNat (u % 128 + 128))]) (v' := v2) (w' := w2) (by simp; omega) (by rw [List.length_map, List.length_append, HN.out]) rfl (by simpa using happ)
      have e2 : (l ++ p).map bv ++ [bv (UInt8.ofNat (u % 128 + 128))] = (l ++ (p ++ [UInt8.ofNat (u % 128 + 128)])).map bv := by simp
      have hl2 : ((l ++ (p ++ [UInt8.ofNat (u % 128 + 128)])).map bv).length = n + (p.length + 1) := by simp [HN.out]
      rw [e2] at o2
      obtain ⟨A2, c2, rfl, n2⟩ := o2.form
      rw [hl2] at o2 ⊢
      have O2 := Lib.hid o2
      have F2 := Lib.hid ((F1.out.alloc (.cells #[.int .u8 (bits BinOp.or IntKind.u8 ((u : Int) % 256) 128)] 5)).transF f2)
      clear happ o2 f2 n2 e2 hl2
      go_wp2_with fail
      go_roundw
      case rel =>
        refine ⟨A2, c2, p ++ [UInt8.ofNat (u % 128 + 128)], u / 128, ?_, ?_, by omega, ?_, ?_, F2.out⟩
        · simp
        · go_num
        · rw [HE.out, encN_ge u hlt]; simp
        · rw [List.length_append]; exact O2.out
      case measure => simp [intOf]; omega

theorem int_any (A : Option Addr) (n c : Nat) (k : Int) (l : List UInt8) (w : World) (B : Nat) (hA : A = none → n = 0) (hl : l.length = n) (hr : Rd w B A (l.map bv)) (hB : B ≤ w.heap.size) (hk1 : -9223372036854775808 ≤ k) (hk2 : k ≤ 9223372036854775807) (hsz : n ≤ 225000000000000) :
    Calls Tryd.prog 33 #[.slice A n c, .int .i64 k] w fun e w' => ∃ A' c', e = .returned (.slice A' (n + (encN (codeN k)).length) c') ∧ Own w' (fun i => w.heap.size ≤ i) 5 (.slice A' (n + (encN (codeN k)).length) c') ((l ++ encN (codeN k)).map bv) ∧ Fr No w w' := by
  have HA := Lib.hid hA
  have HL := Lib.hid hl
  have HR := Lib.hid hr
  clear hA hl hr
  go_enter Tryd.func33, Tryd.ntmps33
  go_wp2_with fail
  refine (wcopied_any A n c 10 l _ B HA.out HL.out HR.out hB (by omega) (by omega)).mono ?_
  rintro e w1 ⟨A1, c1, rfl, o1, f1⟩
  have O1 := Lib.hid o1
  have F1 := Lib.hid f1
  clear o1 f1
  go_wp2_with fail
  refine (put_any A1 n c1 k l _ _ HL.out O1.out hk1 hk2 hsz).mono ?_
  rintro e w2 ⟨A2, c2, rfl, o2, f2⟩
  have hs := F1.out.size
  have O2 := Lib.hid (o2.mono (G := fun i => w.heap.size ≤ i) fun i hi => by rcases hi with hi | hi <;> omega)
  have F2 := Lib.hid (F1.out.transNew f2 fun i hi => hi)
  clear o2 f2 hs
  go_wp2_with fail
  go_ret
  exact ⟨A2, c2, rfl, O2.out, F2.out⟩
end Go.Proofs.YtanhbebikcoliaaDoor
/- The contracts of the wire's reference: code, Int. -/
namespace Go.Proofs.YtanhbebikcoliaaDoor
open Go.ChangeShapes Go.WideShapes Go.ChangeAt Go.RowKit

theorem rcode_any (n : Int) (w : World) (h1 : -9223372036854775808 ≤ n) (h2 : n ≤ 9223372036854775807) :
    Calls Tryd.prog 50 #[.int .i64 n] w fun e w' => e = .returned (.int .u64 (codeN n : Int)) ∧ w = w' := by
  by_cases hn : n < 0
  · go_enter Tryd.func50, Tryd.ntmps50
    go_wp2
    go_ret
    refine ⟨ret_int ?_, rfl⟩
    unfold codeN
    rw [if_neg (by omega)]
    omega
  · go_enter Tryd.func50, Tryd.ntmps50
    go_wp2
    go_ret
    refine ⟨ret_int ?_, rfl⟩
    unfold codeN
    rw [if_pos (by omega)]
    omega

set_option maxHeartbeats 1000000 in
theorem rint_any (A : Option Addr) (n c : Nat) (k : Int) (l : List UInt8) (w : World) (B : Nat) (hA : A = none → n = 0) (hl : l.length = n) (hr : Rd w B A (l.map bv)) (hB : B ≤ w.heap.size) (hk1 : -9223372036854775808 ≤ k) (hk2 : k ≤ 9223372036854775807) (hsz : n ≤ 225000000000000) :
    Calls Tryd.prog 30 #[.slice A n c, .int .i64 k] w fun e w' => ∃ A' c', e = .returned (.slice A' (n + (encN (codeN k)).length) c') ∧ Own w' (fun i => w.heap.size ≤ i) 5 (.slice A' (n + (encN (codeN k)).length) c') ((l ++ encN (codeN k)).map bv) ∧ Fr No w w' := by
  obtain ⟨i0, hi0, hz0, hz1, hz2⟩ := info_parts bytes_info
  have hcl := codeN_lt k hk1 hk2
  have hel := encN_len10 _ hcl
  generalize hu0 : codeN k = u0 at *
  have HU := Lib.hid hu0
  have HA := Lib.hid hA
  have HN := Lib.hid hl
  have HR := Lib.hid hr
  clear hA hl hr hu0
  go_enter Tryd.func30, Tryd.ntmps30
  go_wp2_with (at_builtin; refine wpList_append_rd _ rfl (.tmp 7) (.tmp 8) _ rfl 0 5 i0 _ 1 Tryd.underlying40 hi0 hz0 hz1 hz2 rfl _ 0 [] rfl (Own.made w 5).1 B A n c (l.map bv) rfl ?c1 ?c2 ?c3 (bv_one l) ?c4 ?c5 (Nat.zero_le _) ?_)
  case c1 => exact HA.out
  case c2 => exact HR.out.frNo (fr_alloc _ _) hB
  case c3 => rw [List.length_map, HN.out]
  case c4 => unfold maxLen; omega
  case c5 => omega
  intro v0 w0 happ
  obtain ⟨o0, f0⟩ := (Own.made w 5).appendedNew (by simp) rfl (by rw [List.length_map, HN.out]) happ
  rw [List.nil_append] at o0
  obtain ⟨A0, c0, rfl, n0⟩ := o0.form
  rw [List.length_map, HN.out] at o0 ⊢
  have O0 := Lib.hid o0
  have F0 := Lib.hid ((fr_alloc w (.cells #[] 5)).transNew f0 fun i hi => hi)
  clear happ o0 f0 n0
  go_wp2_with fail
  refine (rcode_any _ _ hk1 hk2).mono ?_
  rintro e w1 ⟨rfl, rfl⟩
  rw [HU.out]
  go_wp2_with fail
  go_loopw [5, 6] (fun b i wr => ∃ (A' : Option Addr) (c' : Nat) (p : List UInt8) (u : Nat), b = .slice A' (n + p.length) c' ∧ i = .int .u64 (u : Int) ∧ u ≤ u0 ∧ encN u0 = p ++ encN u ∧ Own wr (fun i => w.heap.size ≤ i) 5 (.slice A' (n + p.length) c') ((l ++ p).map bv) ∧ Fr No w wr) (fun _ i _ => (intOf i).toNat)
  case atStart => exact ⟨A0, c0, [], u0, rfl, rfl, Nat.le_refl _, rfl, by simpa using O0.out, F0.out⟩
  case round =>
    obtain ⟨A', c', p, u, rfl, rfl, hu, he, ho, hf⟩ := hrel
    have HE := Lib.hid he
    have O1 := Lib.hid ho
    have F1 := Lib.hid hf
    have hpl : p.length ≤ 10 := by have := congrArg List.length he; rw [List.length_append] at this; omega
    have hs1 : w.heap.size ≤ wr.heap.size := hf.size
    clear he ho hf
    by_cases hlt : u < 128
    · have ht : decide ((128 : Int) ≤ (u : Int)) = false := by simp; omega
      have hb : [Value.int .u8 (u : Int)] = [UInt8.ofNat u].map bv := by
        simp only [List.map_cons, List.map_nil, bv, UInt8.toNat_ofNat']
        rw [show u % 2 ^ 8 = u from by omega]
      have HB := Lib.hid hb
      have P1 := Lib.hid (O1.out.frNo (fr_alloc wr (.cells #[.int .u8 (u : Int)] 5)))
      clear hb
      go_wp2_with (at_builtin; refine wpList_append_rd _ rfl (.tmp 23) (.tmp 26) _ rfl 0 5 i0 _ 1 Tryd.underlying40 hi0 hz0 hz1 hz2 rfl _ (n + p.length) ((l ++ p).map bv) rfl ?c0 (wr.heap.size + 1) _ 1 1 ([UInt8.ofNat u].map bv) rfl (fun h => by cases h) ?c1 rfl (bv_one _) ?c4 ?c5 (Nat.zero_le _) ?_)
      case c0 => exact P1.out.own (by rw [List.length_map, List.length_append, HN.out])
      case c1 => exact Rd.new wr [.int .u8 (u : Int)] 5 HB.out
      case c4 => unfold maxLen; omega
      case c5 => omega
      intro v2 w2 happ
      obtain ⟨o2, f2⟩ := P1.out.appendedNew (n := n + p.length) (m := 1) (news := [bv (UInt8.ofNat u)]) (v' := v2) (w' := w2) (by simp; omega) (by rw [List.length_map, List.length_append, HN.out]) rfl (by simpa using happ)
      have e2 : (l ++ p).map bv ++ [bv (UInt8.ofNat u)] = (l ++ encN u0).map bv := by rw [HE.out, encN_lt u hlt]; simp
      have hl2 : ((l ++ encN u0).map bv).length = n + (encN u0).length := by rw [List.length_map, List.length_append, HN.out]
      rw [e2] at o2
      obtain ⟨A2, c2, rfl, n2⟩ := o2.form
      rw [hl2] at o2 ⊢
      have O2 := Lib.hid o2
      have F2 := Lib.hid ((F1.out.alloc (.cells #[.int .u8 (u : Int)] 5)).transNew f2 fun i hi => hi)
      clear happ o2 f2 n2 e2 hl2
      go_wp2_with fail
      go_ret
      exact ⟨A2, c2, rfl, O2.out, F2.out⟩
    · have ht : decide ((128 : Int) ≤ (u : Int)) = true := by simp; omega
      have hb : [Value.int .u8 ((u : Int) % 128 + 128)] = [UInt8.ofNat (u % 128 + 128)].map bv := by
        simp only [List.map_cons, List.map_nil, bv, UInt8.toNat_ofNat']
        rw [show ((u : Int) % 128 + 128) = (((u % 128 + 128) % 2 ^ 8 : Nat) : Int) from by omega]
      have HB := Lib.hid hb
      have P1 := Lib.hid (O1.out.frNo (fr_alloc wr (.cells #[.int .u8 ((u : Int) % 128 + 128)] 5)))
      clear hb
      go_wp2_with (at_builtin; refine wpList_append_rd _ rfl (.tmp 14) (.tmp 19) _ rfl 0 5 i0 _ 1 Tryd.underlying40 hi0 hz0 hz1 hz2 rfl _ (n + p.length) ((l ++ p).map bv) rfl ?c0 (wr.heap.size + 1) _ 1 1 ([UInt8.ofNat (u % 128 + 128)].map bv) rfl (fun h => by cases h) ?c1 rfl (bv_one _) ?c4 ?c5 (Nat.zero_le _) ?_)
      case c0 => exact P1.out.own (by rw [List.length_map, List.length_append, HN.out])
      case c1 => exact Rd.new wr [.int .u8 ((u : Int) % 128 + 128)] 5 HB.out
      case c4 => unfold maxLen; omega
      case c5 => omega
      intro v2 w2 happ
      obtain ⟨o2, f2⟩ := P1.out.appendedNew (n := n + p.length) (m := 1) (news := [bv (UInt8.ofNat (u % 128 + 128))]) (v' := v2) (w' := w2) (by simp; omega) (by rw [List.length_map, List.length_append, HN.out]) rfl (by simpa using happ)
      have e2 : (l ++ p).map bv ++ [bv (UInt8.ofNat (u % 128 + 128))] = (l ++ (p ++ [UInt8.ofNat (u % 128 + 128)])).map bv := by simp
      have hl2 : ((l ++ (p ++ [UInt8.ofNat (u % 128 + 128)])).map bv).length = n + (p.length + 1) := by simp [HN.out]
      rw [e2] at o2
      obtain ⟨A2, c2, rfl, n2⟩ := o2.form
      rw [hl2] at o2 ⊢
      have O2 := Lib.hid o2
      have F2 := Lib.hid ((F1.out.alloc (.cells #[.int .u8 ((u : Int) % 128 + 128)] 5)).transNew f2 fun i hi => hi)
      clear happ o2 f2 n2 e2 hl2
      go_wp2_with fail
      go_roundw
      case rel =>
        refine ⟨A2, c2, p ++ [UInt8.ofNat (u % 128 + 128)], u / 128, ?_, ?_, by omega, ?_, ?_, F2.out⟩
        · simp
        · go_num
        · rw [HE.out, encN_ge u hlt]; simp
        · rw [List.length_append]; exact O2.out
      case measure => simp [intOf]; omega
end Go.Proofs.YtanhbebikcoliaaDoor
/- The contracts of both Bytes of an entry. -/
namespace Go.Proofs.YtanhbebikcoliaaDoor
open Go.ChangeShapes Go.WideShapes Go.ChangeAt Go.RowKit
set_option linter.unusedVariables false

/-- The bytes of an entry. -/
def enB (e : En) : List UInt8 := intsF e.l
theorem enB_len (e : En) (h : e.ok) : (enB e).length ≤ 90 := intsF_len e.l h

theorem blk_new' (w : World) (g : Nat) (t : TypeId) (cs : Array Value) (h : g = w.heap.size) : Blk (w.alloc (.cells cs t)) g t cs := by subst h; exact Blk.new w t cs

set_option maxRecDepth 100000 in
set_option maxHeartbeats 4000000 in
theorem bytes_any (e : En) (w : World) (hok : e.ok) :
    Calls Tryd.prog 21 #[e.v] w fun r w' => ∃ A c, r = .returned (.slice A (enB e).length c) ∧ Own w' (fun i => w.heap.size ≤ i) 5 (.slice A (enB e).length c) ((enB e).map bv) ∧ Fr No w w' := by
  obtain ⟨kd, tick, te, ce, ot, ep, fr, un, n⟩ := e
  have hok' : (-9223372036854775808 ≤ kd ∧ kd ≤ 9223372036854775807) ∧ (-9223372036854775808 ≤ tick ∧ tick ≤ 9223372036854775807) ∧ (-9223372036854775808 ≤ te ∧ te ≤ 9223372036854775807) ∧ (-9223372036854775808 ≤ ce ∧ ce ≤ 9223372036854775807) ∧ (-9223372036854775808 ≤ ot ∧ ot ≤ 9223372036854775807) ∧ (-9223372036854775808 ≤ ep ∧ ep ≤ 9223372036854775807) ∧ (-9223372036854775808 ≤ fr ∧ fr ≤ 9223372036854775807) ∧ (-9223372036854775808 ≤ un ∧ un ≤ 9223372036854775807) ∧ (-9223372036854775808 ≤ n ∧ n ≤ 9223372036854775807) := by simpa [En.ok, En.l] using hok
  obtain ⟨b0, b1, b2, b3, b4, b5, b6, b7, b8⟩ := hok'
  have hend : intsF ([kd, tick, te, ce, ot, ep, fr, un, n].take 9) = enB ⟨kd, tick, te, ce, ot, ep, fr, un, n⟩ := rfl
  generalize enB ⟨kd, tick, te, ce, ot, ep, fr, un, n⟩ = E at *
  obtain ⟨L, hL⟩ : ∃ L, L = [kd, tick, te, ce, ot, ep, fr, un, n] := ⟨_, rfl⟩
  rw [← hL] at hend
  unfold En.v
  have c1 := ent_cells (Blk.new w TEnt #[.int .i64 kd, .int .i64 tick, .int .i64 te, .int .i64 ce, .int .i64 ot, .int .i64 ep, .int .i64 fr, .int .i64 un, .int .i64 n])
  obtain ⟨c0, c1, c2, c3, c4, c5, c6, c7, c8⟩ := c1
  clear hok
  have HEND := Lib.hid hend
  have HL := Lib.hid hL
  have B0 := Lib.hid b0
  have B1 := Lib.hid b1
  have B2 := Lib.hid b2
  have B3 := Lib.hid b3
  have B4 := Lib.hid b4
  have B5 := Lib.hid b5
  have B6 := Lib.hid b6
  have B7 := Lib.hid b7
  have B8 := Lib.hid b8
  clear hend hL b0 b1 b2 b3 b4 b5 b6 b7 b8
  go_enter Tryd.func21, Tryd.ntmps21
  go_wp2_with fail
  obtain ⟨W, hW⟩ : ∃ W, W = w.alloc (.cells #[.int .i64 kd, .int .i64 tick, .int .i64 te, .int .i64 ce, .int .i64 ot, .int .i64 ep, .int .i64 fr, .int .i64 un, .int .i64 n] TEnt) := ⟨_, rfl⟩
  have hF : Fr No w W := by rw [hW]; exact fr_alloc w _
  rw [← hW]
  clear hW c0 c1 c2 c3 c4 c5 c6 c7 c8
  have HF := Lib.hid hF
  clear hF
  go_loopw [3, 25] (fun o i wr => ∃ (A' : Option Addr) (c' k : Nat) (p : List UInt8), k ≤ 9 ∧ i = .int .i64 k ∧ p = intsF (L.take k) ∧ p.length ≤ 10 * k ∧ o = .slice A' p.length c' ∧ Own wr (fun i => w.heap.size ≤ i) 5 (.slice A' p.length c') (p.map bv) ∧ Fr No W wr) (fun _ i _ => 9 - (intOf i).toNat)
  case atStart => exact ⟨none, 0, 0, [], Nat.zero_le _, rfl, rfl, Nat.zero_le _, rfl, Own.nil _ _ _, Fr.refl _ _⟩
  case round =>
    obtain ⟨A', c', k, p, hk, rfl, hp, hpl, rfl, ho, hf⟩ := hrel
    have hs : w.heap.size ≤ wr.heap.size := (HF.out.transNo hf).size
    have hcase : k = 0 ∨ k = 1 ∨ k = 2 ∨ k = 3 ∨ k = 4 ∨ k = 5 ∨ k = 6 ∨ k = 7 ∨ k = 8 ∨ k = 9 := by omega
    have HP := Lib.hid hp
    have O3 := Lib.hid ho
    have F3 := Lib.hid hf
    clear hp ho hf hk
    rcases hcase with rfl | rfl | rfl | rfl | rfl | rfl | rfl | rfl | rfl | rfl
    · have hen1 := encN_len10 _ (codeN_lt kd B0.out.1 B0.out.2)
      have htk : intsF (L.take 1) = p ++ encN (codeN kd) := by rw [HP.out, HL.out, ← intsF_snoc]; rfl
      have HTK := Lib.hid htk
      clear htk
      have ix : ∀ W : World, (Instr.index 64 (.agg #[.int .i64 kd, .int .i64 tick, .int .i64 te, .int .i64 ce, .int .i64 ot, .int .i64 ep, .int .i64 fr, .int .i64 un, .int .i64 n]) (.int .i64 0)).run Tryd.prog W = .ok (.int .i64 kd) W := fun _ => by kernel_rfl
      go_wp2_with fail
      refine (int_any A' p.length c' kd p _ _ O3.out.len.2 rfl O3.out.rd (Nat.le_refl _) B0.out.1 B0.out.2 (by omega)).mono ?_
      rintro e w4 ⟨A4, c4, rfl, o4, f4⟩
      have O4 := Lib.hid (o4.mono (G := fun i => w.heap.size ≤ i) fun i hi => by omega)
      have F4 := Lib.hid (F3.out.transNo f4)
      clear o4 f4
      go_wp2_with fail
      go_roundw
      case rel =>
        refine ⟨A4, c4, 1, p ++ encN (codeN kd), by omega, rfl, HTK.out.symm, by rw [List.length_append]; omega, ?_, ?_, F4.out⟩
        · rw [List.length_append]
        · rw [List.length_append]; exact O4.out
      case measure => simp [intOf]
    · have hen1 := encN_len10 _ (codeN_lt tick B1.out.1 B1.out.2)
      have htk : intsF (L.take 2) = p ++ encN (codeN tick) := by rw [HP.out, HL.out, ← intsF_snoc]; rfl
      have HTK := Lib.hid htk
      clear htk
      have ix : ∀ W : World, (Instr.index 64 (.agg #[.int .i64 kd, .int .i64 tick, .int .i64 te, .int .i64 ce, .int .i64 ot, .int .i64 ep, .int .i64 fr, .int .i64 un, .int .i64 n]) (.int .i64 1)).run Tryd.prog W = .ok (.int .i64 tick) W := fun _ => by kernel_rfl
      go_wp2_with fail
      refine (int_any A' p.length c' tick p _ _ O3.out.len.2 rfl O3.out.rd (Nat.le_refl _) B1.out.1 B1.out.2 (by omega)).mono ?_
      rintro e w4 ⟨A4, c4, rfl, o4, f4⟩
      have O4 := Lib.hid (o4.mono (G := fun i => w.heap.size ≤ i) fun i hi => by omega)
      have F4 := Lib.hid (F3.out.transNo f4)
      clear o4 f4
      go_wp2_with fail
      go_roundw
      case rel =>
        refine ⟨A4, c4, 2, p ++ encN (codeN tick), by omega, rfl, HTK.out.symm, by rw [List.length_append]; omega, ?_, ?_, F4.out⟩
        · rw [List.length_append]
        · rw [List.length_append]; exact O4.out
      case measure => simp [intOf]
    · have hen1 := encN_len10 _ (codeN_lt te B2.out.1 B2.out.2)
      have htk : intsF (L.take 3) = p ++ encN (codeN te) := by rw [HP.out, HL.out, ← intsF_snoc]; rfl
      have HTK := Lib.hid htk
      clear htk
      have ix : ∀ W : World, (Instr.index 64 (.agg #[.int .i64 kd, .int .i64 tick, .int .i64 te, .int .i64 ce, .int .i64 ot, .int .i64 ep, .int .i64 fr, .int .i64 un, .int .i64 n]) (.int .i64 2)).run Tryd.prog W = .ok (.int .i64 te) W := fun _ => by kernel_rfl
      go_wp2_with fail
      refine (int_any A' p.length c' te p _ _ O3.out.len.2 rfl O3.out.rd (Nat.le_refl _) B2.out.1 B2.out.2 (by omega)).mono ?_
      rintro e w4 ⟨A4, c4, rfl, o4, f4⟩
      have O4 := Lib.hid (o4.mono (G := fun i => w.heap.size ≤ i) fun i hi => by omega)
      have F4 := Lib.hid (F3.out.transNo f4)
      clear o4 f4
      go_wp2_with fail
      go_roundw
      case rel =>
        refine ⟨A4, c4, 3, p ++ encN (codeN te), by omega, rfl, HTK.out.symm, by rw [List.length_append]; omega, ?_, ?_, F4.out⟩
        · rw [List.length_append]
        · rw [List.length_append]; exact O4.out
      case measure => simp [intOf]
    · have hen1 := encN_len10 _ (codeN_lt ce B3.out.1 B3.out.2)
      have htk : intsF (L.take 4) = p ++ encN (codeN ce) := by rw [HP.out, HL.out, ← intsF_snoc]; rfl
      have HTK := Lib.hid htk
      clear htk
      have ix : ∀ W : World, (Instr.index 64 (.agg #[.int .i64 kd, .int .i64 tick, .int .i64 te, .int .i64 ce, .int .i64 ot, .int .i64 ep, .int .i64 fr, .int .i64 un, .int .i64 n]) (.int .i64 3)).run Tryd.prog W = .ok (.int .i64 ce) W := fun _ => by kernel_rfl
      go_wp2_with fail
      refine (int_any A' p.length c' ce p _ _ O3.out.len.2 rfl O3.out.rd (Nat.le_refl _) B3.out.1 B3.out.2 (by omega)).mono ?_
      rintro e w4 ⟨A4, c4, rfl, o4, f4⟩
      have O4 := Lib.hid (o4.mono (G := fun i => w.heap.size ≤ i) fun i hi => by omega)
      have F4 := Lib.hid (F3.out.transNo f4)
      clear o4 f4
      go_wp2_with fail
      go_roundw
      case rel =>
        refine ⟨A4, c4, 4, p ++ encN (codeN ce), by omega, rfl, HTK.out.symm, by rw [List.length_append]; omega, ?_, ?_, F4.out⟩
        · rw [List.length_append]
        · rw [List.length_append]; exact O4.out
      case measure => simp [intOf]
    · have hen1 := encN_len10 _ (codeN_lt ot B4.out.1 B4.out.2)
      have htk : intsF (L.take 5) = p ++ encN (codeN ot) := by rw [HP.out, HL.out, ← intsF_snoc]; rfl
      have HTK := Lib.hid htk
      clear htk
      have ix : ∀ W : World, (Instr.index 64 (.agg #[.int .i64 kd, .int .i64 tick, .int .i64 te, .int .i64 ce, .int .i64 ot, .int .i64 ep, .int .i64 fr, .int .i64 un, .int .i64 n]) (.int .i64 4)).run Tryd.prog W = .ok (.int .i64 ot) W := fun _ => by kernel_rfl
      go_wp2_with fail
      refine (int_any A' p.length c' ot p _ _ O3.out.len.2 rfl O3.out.rd (Nat.le_refl _) B4.out.1 B4.out.2 (by omega)).mono ?_
      rintro e w4 ⟨A4, c4, rfl, o4, f4⟩
      have O4 := Lib.hid (o4.mono (G := fun i => w.heap.size ≤ i) fun i hi => by omega)
      have F4 := Lib.hid (F3.out.transNo f4)
      clear o4 f4
      go_wp2_with fail
      go_roundw
      case rel =>
        refine ⟨A4, c4, 5, p ++ encN (codeN ot), by omega, rfl, HTK.out.symm, by rw [List.length_append]; omega, ?_, ?_, F4.out⟩
        · rw [List.length_append]
        · rw [List.length_append]; exact O4.out
      case measure => simp [intOf]
    · have hen1 := encN_len10 _ (codeN_lt ep B5.out.1 B5.out.2)
      have htk : intsF (L.take 6) = p ++ encN (codeN ep) := by rw [HP.out, HL.out, ← intsF_snoc]; rfl
      have HTK := Lib.hid htk
      clear htk
      have ix : ∀ W : World, (Instr.index 64 (.agg #[.int .i64 kd, .int .i64 tick, .int .i64 te, .int .i64 ce, .int .i64 ot, .int .i64 ep, .int .i64 fr, .int .i64 un, .int .i64 n]) (.int .i64 5)).run Tryd.prog W = .ok (.int .i64 ep) W := fun _ => by kernel_rfl
      go_wp2_with fail
      refine (int_any A' p.length c' ep p _ _ O3.out.len.2 rfl O3.out.rd (Nat.le_refl _) B5.out.1 B5.out.2 (by omega)).mono ?_
      rintro e w4 ⟨A4, c4, rfl, o4, f4⟩
      have O4 := Lib.hid (o4.mono (G := fun i => w.heap.size ≤ i) fun i hi => by omega)
      have F4 := Lib.hid (F3.out.transNo f4)
      clear o4 f4
      go_wp2_with fail
      go_roundw
      case rel =>
        refine ⟨A4, c4, 6, p ++ encN (codeN ep), by omega, rfl, HTK.out.symm, by rw [List.length_append]; omega, ?_, ?_, F4.out⟩
        · rw [List.length_append]
        · rw [List.length_append]; exact O4.out
      case measure => simp [intOf]
    · have hen1 := encN_len10 _ (codeN_lt fr B6.out.1 B6.out.2)
      have htk : intsF (L.take 7) = p ++ encN (codeN fr) := by rw [HP.out, HL.out, ← intsF_snoc]; rfl
      have HTK := Lib.hid htk
      clear htk
      have ix : ∀ W : World, (Instr.index 64 (.agg #[.int .i64 kd, .int .i64 tick, .int .i64 te, .int .i64 ce, .int .i64 ot, .int .i64 ep, .int .i64 fr, .int .i64 un, .int .i64 n]) (.int .i64 6)).run Tryd.prog W = .ok (.int .i64 fr) W := fun _ => by kernel_rfl
      go_wp2_with fail
      refine (int_any A' p.length c' fr p _ _ O3.out.len.2 rfl O3.out.rd (Nat.le_refl _) B6.out.1 B6.out.2 (by omega)).mono ?_
      rintro e w4 ⟨A4, c4, rfl, o4, f4⟩
      have O4 := Lib.hid (o4.mono (G := fun i => w.heap.size ≤ i) fun i hi => by omega)
      have F4 := Lib.hid (F3.out.transNo f4)
      clear o4 f4
      go_wp2_with fail
      go_roundw
      case rel =>
        refine ⟨A4, c4, 7, p ++ encN (codeN fr), by omega, rfl, HTK.out.symm, by rw [List.length_append]; omega, ?_, ?_, F4.out⟩
        · rw [List.length_append]
        · rw [List.length_append]; exact O4.out
      case measure => simp [intOf]
    · have hen1 := encN_len10 _ (codeN_lt un B7.out.1 B7.out.2)
      have htk : intsF (L.take 8) = p ++ encN (codeN un) := by rw [HP.out, HL.out, ← intsF_snoc]; rfl
      have HTK := Lib.hid htk
      clear htk
      have ix : ∀ W : World, (Instr.index 64 (.agg #[.int .i64 kd, .int .i64 tick, .int .i64 te, .int .i64 ce, .int .i64 ot, .int .i64 ep, .int .i64 fr, .int .i64 un, .int .i64 n]) (.int .i64 7)).run Tryd.prog W = .ok (.int .i64 un) W := fun _ => by kernel_rfl
      go_wp2_with fail
      refine (int_any A' p.length c' un p _ _ O3.out.len.2 rfl O3.out.rd (Nat.le_refl _) B7.out.1 B7.out.2 (by omega)).mono ?_
      rintro e w4 ⟨A4, c4, rfl, o4, f4⟩
      have O4 := Lib.hid (o4.mono (G := fun i => w.heap.size ≤ i) fun i hi => by omega)
      have F4 := Lib.hid (F3.out.transNo f4)
      clear o4 f4
      go_wp2_with fail
      go_roundw
      case rel =>
        refine ⟨A4, c4, 8, p ++ encN (codeN un), by omega, rfl, HTK.out.symm, by rw [List.length_append]; omega, ?_, ?_, F4.out⟩
        · rw [List.length_append]
        · rw [List.length_append]; exact O4.out
      case measure => simp [intOf]
    · have hen1 := encN_len10 _ (codeN_lt n B8.out.1 B8.out.2)
      have htk : intsF (L.take 9) = p ++ encN (codeN n) := by rw [HP.out, HL.out, ← intsF_snoc]; rfl
      have HTK := Lib.hid htk
      clear htk
      have ix : ∀ W : World, (Instr.index 64 (.agg #[.int .i64 kd, .int .i64 tick, .int .i64 te, .int .i64 ce, .int .i64 ot, .int .i64 ep, .int .i64 fr, .int .i64 un, .int .i64 n]) (.int .i64 8)).run Tryd.prog W = .ok (.int .i64 n) W := fun _ => by kernel_rfl
      go_wp2_with fail
      refine (int_any A' p.length c' n p _ _ O3.out.len.2 rfl O3.out.rd (Nat.le_refl _) B8.out.1 B8.out.2 (by omega)).mono ?_
      rintro e w4 ⟨A4, c4, rfl, o4, f4⟩
      have O4 := Lib.hid (o4.mono (G := fun i => w.heap.size ≤ i) fun i hi => by omega)
      have F4 := Lib.hid (F3.out.transNo f4)
      clear o4 f4
      go_wp2_with fail
      go_roundw
      case rel =>
        refine ⟨A4, c4, 9, p ++ encN (codeN n), by omega, rfl, HTK.out.symm, by rw [List.length_append]; omega, ?_, ?_, F4.out⟩
        · rw [List.length_append]
        · rw [List.length_append]; exact O4.out
      case measure => simp [intOf]
    · have hpe : p = E := by rw [HP.out, HEND.out]
      subst hpe
      go_wp2_with fail
      go_ret
      exact ⟨A', c', rfl, O3.out, HF.out.transNo F3.out⟩

set_option maxRecDepth 100000 in
set_option maxHeartbeats 4000000 in
theorem rbytes_any (e : En) (w : World) (hok : e.ok) :
    Calls Tryd.prog 17 #[e.v] w fun r w' => ∃ A c, r = .returned (.slice A (enB e).length c) ∧ Own w' (fun i => w.heap.size ≤ i) 5 (.slice A (enB e).length c) ((enB e).map bv) ∧ Fr No w w' := by
  obtain ⟨kd, tick, te, ce, ot, ep, fr, un, n⟩ := e
  have hok' : (-9223372036854775808 ≤ kd ∧ kd ≤ 9223372036854775807) ∧ (-9223372036854775808 ≤ tick ∧ tick ≤ 9223372036854775807) ∧ (-9223372036854775808 ≤ te ∧ te ≤ 9223372036854775807) ∧ (-9223372036854775808 ≤ ce ∧ ce ≤ 9223372036854775807) ∧ (-9223372036854775808 ≤ ot ∧ ot ≤ 9223372036854775807) ∧ (-9223372036854775808 ≤ ep ∧ ep ≤ 9223372036854775807) ∧ (-9223372036854775808 ≤ fr ∧ fr ≤ 9223372036854775807) ∧ (-9223372036854775808 ≤ un ∧ un ≤ 9223372036854775807) ∧ (-9223372036854775808 ≤ n ∧ n ≤ 9223372036854775807) := by simpa [En.ok, En.l] using hok
  obtain ⟨b0, b1, b2, b3, b4, b5, b6, b7, b8⟩ := hok'
  have hend : intsF ([kd, tick, te, ce, ot, ep, fr, un, n].take 9) = enB ⟨kd, tick, te, ce, ot, ep, fr, un, n⟩ := rfl
  generalize enB ⟨kd, tick, te, ce, ot, ep, fr, un, n⟩ = E at *
  obtain ⟨L, hL⟩ : ∃ L, L = [kd, tick, te, ce, ot, ep, fr, un, n] := ⟨_, rfl⟩
  rw [← hL] at hend
  unfold En.v
  have c1 := ent_cells (Blk.new w TEnt #[.int .i64 kd, .int .i64 tick, .int .i64 te, .int .i64 ce, .int .i64 ot, .int .i64 ep, .int .i64 fr, .int .i64 un, .int .i64 n])
  obtain ⟨c0, c1, c2, c3, c4, c5, c6, c7, c8⟩ := c1
  clear hok
  have HEND := Lib.hid hend
  have HL := Lib.hid hL
  have B0 := Lib.hid b0
  have B1 := Lib.hid b1
  have B2 := Lib.hid b2
  have B3 := Lib.hid b3
  have B4 := Lib.hid b4
  have B5 := Lib.hid b5
  have B6 := Lib.hid b6
  have B7 := Lib.hid b7
  have B8 := Lib.hid b8
  clear hend hL b0 b1 b2 b3 b4 b5 b6 b7 b8
  go_enter Tryd.func17, Tryd.ntmps17
  go_wp2_with fail
  obtain ⟨W, hW⟩ : ∃ W, W = (w.alloc (.cells #[.int .i64 kd, .int .i64 tick, .int .i64 te, .int .i64 ce, .int .i64 ot, .int .i64 ep, .int .i64 fr, .int .i64 un, .int .i64 n] TEnt)).alloc (.cells #[.int .i64 kd, .int .i64 tick, .int .i64 te, .int .i64 ce, .int .i64 ot, .int .i64 ep, .int .i64 fr, .int .i64 un, .int .i64 n] 3) := ⟨_, rfl⟩
  have hF : Fr No w W := by rw [hW]; exact (fr_alloc w _).alloc _
  have hD : Blk W (w.heap.size + 1) 3 #[.int .i64 kd, .int .i64 tick, .int .i64 te, .int .i64 ce, .int .i64 ot, .int .i64 ep, .int .i64 fr, .int .i64 un, .int .i64 n] := by rw [hW]; exact blk_new' _ _ _ _ (by simp)
  rw [← hW]
  clear hW c0 c1 c2 c3 c4 c5 c6 c7 c8
  have HF := Lib.hid hF
  have HD := Lib.hid hD
  clear hF hD
  go_loopw [3, 5] (fun o i wr => ∃ (A' : Option Addr) (c' k : Nat) (p : List UInt8), k ≤ 9 ∧ i = .int .i64 k ∧ p = intsF (L.take k) ∧ p.length ≤ 10 * k ∧ o = .slice A' p.length c' ∧ Own wr (fun i => w.heap.size ≤ i) 5 (.slice A' p.length c') (p.map bv) ∧ Fr No W wr) (fun _ i _ => 9 - (intOf i).toNat)
  case atStart => exact ⟨none, 0, 0, [], Nat.zero_le _, rfl, rfl, Nat.zero_le _, rfl, Own.nil _ _ _, Fr.refl _ _⟩
  case round =>
    obtain ⟨A', c', k, p, hk, rfl, hp, hpl, rfl, ho, hf⟩ := hrel
    have hs : w.heap.size ≤ wr.heap.size := (HF.out.transNo hf).size
    have hcase : k = 0 ∨ k = 1 ∨ k = 2 ∨ k = 3 ∨ k = 4 ∨ k = 5 ∨ k = 6 ∨ k = 7 ∨ k = 8 ∨ k = 9 := by omega
    have HP := Lib.hid hp
    have O3 := Lib.hid ho
    have F3 := Lib.hid hf
    clear hp ho hf hk
    rcases hcase with rfl | rfl | rfl | rfl | rfl | rfl | rfl | rfl | rfl | rfl
    · have hen1 := encN_len10 _ (codeN_lt kd B0.out.1 B0.out.2)
      have htk : intsF (L.take 1) = p ++ encN (codeN kd) := by rw [HP.out, HL.out, ← intsF_snoc]; rfl
      have HTK := Lib.hid htk
      clear htk
      have d : wr.cell? ⟨w.heap.size + 1, 0, none⟩ = some (.int .i64 kd) := (HD.out.fr F3.out (fun h => h)).cell 0
      go_wp2_with fail
      refine (rint_any A' p.length c' kd p _ _ O3.out.len.2 rfl O3.out.rd (Nat.le_refl _) B0.out.1 B0.out.2 (by omega)).mono ?_
      rintro e w4 ⟨A4, c4, rfl, o4, f4⟩
      have O4 := Lib.hid (o4.mono (G := fun i => w.heap.size ≤ i) fun i hi => by omega)
      have F4 := Lib.hid (F3.out.transNo f4)
      clear o4 f4
      go_wp2_with fail
      go_roundw
      case rel =>
        refine ⟨A4, c4, 1, p ++ encN (codeN kd), by omega, rfl, HTK.out.symm, by rw [List.length_append]; omega, ?_, ?_, F4.out⟩
        · rw [List.length_append]
        · rw [List.length_append]; exact O4.out
      case measure => simp [intOf]
    · have hen1 := encN_len10 _ (codeN_lt tick B1.out.1 B1.out.2)
      have htk : intsF (L.take 2) = p ++ encN (codeN tick) := by rw [HP.out, HL.out, ← intsF_snoc]; rfl
      have HTK := Lib.hid htk
      clear htk
      have d : wr.cell? ⟨w.heap.size + 1, 1, none⟩ = some (.int .i64 tick) := (HD.out.fr F3.out (fun h => h)).cell 1
      go_wp2_with fail
      refine (rint_any A' p.length c' tick p _ _ O3.out.len.2 rfl O3.out.rd (Nat.le_refl _) B1.out.1 B1.out.2 (by omega)).mono ?_
      rintro e w4 ⟨A4, c4, rfl, o4, f4⟩
      have O4 := Lib.hid (o4.mono (G := fun i => w.heap.size ≤ i) fun i hi => by omega)
      have F4 := Lib.hid (F3.out.transNo f4)
      clear o4 f4
      go_wp2_with fail
      go_roundw
      case rel =>
        refine ⟨A4, c4, 2, p ++ encN (codeN tick), by omega, rfl, HTK.out.symm, by rw [List.length_append]; omega, ?_, ?_, F4.out⟩
        · rw [List.length_append]
        · rw [List.length_append]; exact O4.out
      case measure => simp [intOf]
    · have hen1 := encN_len10 _ (codeN_lt te B2.out.1 B2.out.2)
      have htk : intsF (L.take 3) = p ++ encN (codeN te) := by rw [HP.out, HL.out, ← intsF_snoc]; rfl
      have HTK := Lib.hid htk
      clear htk
      have d : wr.cell? ⟨w.heap.size + 1, 2, none⟩ = some (.int .i64 te) := (HD.out.fr F3.out (fun h => h)).cell 2
      go_wp2_with fail
      refine (rint_any A' p.length c' te p _ _ O3.out.len.2 rfl O3.out.rd (Nat.le_refl _) B2.out.1 B2.out.2 (by omega)).mono ?_
      rintro e w4 ⟨A4, c4, rfl, o4, f4⟩
      have O4 := Lib.hid (o4.mono (G := fun i => w.heap.size ≤ i) fun i hi => by omega)
      have F4 := Lib.hid (F3.out.transNo f4)
      clear o4 f4
      go_wp2_with fail
      go_roundw
      case rel =>
        refine ⟨A4, c4, 3, p ++ encN (codeN te), by omega, rfl, HTK.out.symm, by rw [List.length_append]; omega, ?_, ?_, F4.out⟩
        · rw [List.length_append]
        · rw [List.length_append]; exact O4.out
      case measure => simp [intOf]
    · have hen1 := encN_len10 _ (codeN_lt ce B3.out.1 B3.out.2)
      have htk : intsF (L.take 4) = p ++ encN (codeN ce) := by rw [HP.out, HL.out, ← intsF_snoc]; rfl
      have HTK := Lib.hid htk
      clear htk
      have d : wr.cell? ⟨w.heap.size + 1, 3, none⟩ = some (.int .i64 ce) := (HD.out.fr F3.out (fun h => h)).cell 3
      go_wp2_with fail
      refine (rint_any A' p.length c' ce p _ _ O3.out.len.2 rfl O3.out.rd (Nat.le_refl _) B3.out.1 B3.out.2 (by omega)).mono ?_
      rintro e w4 ⟨A4, c4, rfl, o4, f4⟩
      have O4 := Lib.hid (o4.mono (G := fun i => w.heap.size ≤ i) fun i hi => by omega)
      have F4 := Lib.hid (F3.out.transNo f4)
      clear o4 f4
      go_wp2_with fail
      go_roundw
      case rel =>
        refine ⟨A4, c4, 4, p ++ encN (codeN ce), by omega, rfl, HTK.out.symm, by rw [List.length_append]; omega, ?_, ?_, F4.out⟩
        · rw [List.length_append]
        · rw [List.length_append]; exact O4.out
      case measure => simp [intOf]
    · have hen1 := encN_len10 _ (codeN_lt ot B4.out.1 B4.out.2)
      have htk : intsF (L.take 5) = p ++ encN (codeN ot) := by rw [HP.out, HL.out, ← intsF_snoc]; rfl
      have HTK := Lib.hid htk
      clear htk
      have d : wr.cell? ⟨w.heap.size + 1, 4, none⟩ = some (.int .i64 ot) := (HD.out.fr F3.out (fun h => h)).cell 4
      go_wp2_with fail
      refine (rint_any A' p.length c' ot p _ _ O3.out.len.2 rfl O3.out.rd (Nat.le_refl _) B4.out.1 B4.out.2 (by omega)).mono ?_
      rintro e w4 ⟨A4, c4, rfl, o4, f4⟩
      have O4 := Lib.hid (o4.mono (G := fun i => w.heap.size ≤ i) fun i hi => by omega)
      have F4 := Lib.hid (F3.out.transNo f4)
      clear o4 f4
      go_wp2_with fail
      go_roundw
      case rel =>
        refine ⟨A4, c4, 5, p ++ encN (codeN ot), by omega, rfl, HTK.out.symm, by rw [List.length_append]; omega, ?_, ?_, F4.out⟩
        · rw [List.length_append]
        · rw [List.length_append]; exact O4.out
      case measure => simp [intOf]
    · have hen1 := encN_len10 _ (codeN_lt ep B5.out.1 B5.out.2)
      have htk : intsF (L.take 6) = p ++ encN (codeN ep) := by rw [HP.out, HL.out, ← intsF_snoc]; rfl
      have HTK := Lib.hid htk
      clear htk
      have d : wr.cell? ⟨w.heap.size + 1, 5, none⟩ = some (.int .i64 ep) := (HD.out.fr F3.out (fun h => h)).cell 5
      go_wp2_with fail
      refine (rint_any A' p.length c' ep p _ _ O3.out.len.2 rfl O3.out.rd (Nat.le_refl _) B5.out.1 B5.out.2 (by omega)).mono ?_
      rintro e w4 ⟨A4, c4, rfl, o4, f4⟩
      have O4 := Lib.hid (o4.mono (G := fun i => w.heap.size ≤ i) fun i hi => by omega)
      have F4 := Lib.hid (F3.out.transNo f4)
      clear o4 f4
      go_wp2_with fail
      go_roundw
      case rel =>
        refine ⟨A4, c4, 6, p ++ encN (codeN ep), by omega, rfl, HTK.out.symm, by rw [List.length_append]; omega, ?_, ?_, F4.out⟩
        · rw [List.length_append]
        · rw [List.length_append]; exact O4.out
      case measure => simp [intOf]
    · have hen1 := encN_len10 _ (codeN_lt fr B6.out.1 B6.out.2)
      have htk : intsF (L.take 7) = p ++ encN (codeN fr) := by rw [HP.out, HL.out, ← intsF_snoc]; rfl
      have HTK := Lib.hid htk
      clear htk
      have d : wr.cell? ⟨w.heap.size + 1, 6, none⟩ = some (.int .i64 fr) := (HD.out.fr F3.out (fun h => h)).cell 6
      go_wp2_with fail
      refine (rint_any A' p.length c' fr p _ _ O3.out.len.2 rfl O3.out.rd (Nat.le_refl _) B6.out.1 B6.out.2 (by omega)).mono ?_
      rintro e w4 ⟨A4, c4, rfl, o4, f4⟩
      have O4 := Lib.hid (o4.mono (G := fun i => w.heap.size ≤ i) fun i hi => by omega)
      have F4 := Lib.hid (F3.out.transNo f4)
      clear o4 f4
      go_wp2_with fail
      go_roundw
      case rel =>
        refine ⟨A4, c4, 7, p ++ encN (codeN fr), by omega, rfl, HTK.out.symm, by rw [List.length_append]; omega, ?_, ?_, F4.out⟩
        · rw [List.length_append]
        · rw [List.length_append]; exact O4.out
      case measure => simp [intOf]
    · have hen1 := encN_len10 _ (codeN_lt un B7.out.1 B7.out.2)
      have htk : intsF (L.take 8) = p ++ encN (codeN un) := by rw [HP.out, HL.out, ← intsF_snoc]; rfl
      have HTK := Lib.hid htk
      clear htk
      have d : wr.cell? ⟨w.heap.size + 1, 7, none⟩ = some (.int .i64 un) := (HD.out.fr F3.out (fun h => h)).cell 7
      go_wp2_with fail
      refine (rint_any A' p.length c' un p _ _ O3.out.len.2 rfl O3.out.rd (Nat.le_refl _) B7.out.1 B7.out.2 (by omega)).mono ?_
      rintro e w4 ⟨A4, c4, rfl, o4, f4⟩
      have O4 := Lib.hid (o4.mono (G := fun i => w.heap.size ≤ i) fun i hi => by omega)
      have F4 := Lib.hid (F3.out.transNo f4)
      clear o4 f4
      go_wp2_with fail
      go_roundw
      case rel =>
        refine ⟨A4, c4, 8, p ++ encN (codeN un), by omega, rfl, HTK.out.symm, by rw [List.length_append]; omega, ?_, ?_, F4.out⟩
        · rw [List.length_append]
        · rw [List.length_append]; exact O4.out
      case measure => simp [intOf]
    · have hen1 := encN_len10 _ (codeN_lt n B8.out.1 B8.out.2)
      have htk : intsF (L.take 9) = p ++ encN (codeN n) := by rw [HP.out, HL.out, ← intsF_snoc]; rfl
      have HTK := Lib.hid htk
      clear htk
      have d : wr.cell? ⟨w.heap.size + 1, 8, none⟩ = some (.int .i64 n) := (HD.out.fr F3.out (fun h => h)).cell 8
      go_wp2_with fail
      refine (rint_any A' p.length c' n p _ _ O3.out.len.2 rfl O3.out.rd (Nat.le_refl _) B8.out.1 B8.out.2 (by omega)).mono ?_
      rintro e w4 ⟨A4, c4, rfl, o4, f4⟩
      have O4 := Lib.hid (o4.mono (G := fun i => w.heap.size ≤ i) fun i hi => by omega)
      have F4 := Lib.hid (F3.out.transNo f4)
      clear o4 f4
      go_wp2_with fail
      go_roundw
      case rel =>
        refine ⟨A4, c4, 9, p ++ encN (codeN n), by omega, rfl, HTK.out.symm, by rw [List.length_append]; omega, ?_, ?_, F4.out⟩
        · rw [List.length_append]
        · rw [List.length_append]; exact O4.out
      case measure => simp [intOf]
    · have hpe : p = E := by rw [HP.out, HEND.out]
      subst hpe
      go_wp2_with fail
      go_ret
      exact ⟨A', c', rfl, O3.out, HF.out.transNo F3.out⟩

end Go.Proofs.YtanhbebikcoliaaDoor
