/-
  Several texts in one: Frm, FrmT.
-/
import Derived.Test.YtokblidfekbeeaaZ10
import Derived.Test.YtokblidfekbeeaaZ01
import Derived.Test.YtokblidfekbeeaaZ04
/- The contracts of package frame: Put. -/
namespace Go.Proofs.Ytokblidfekbeeaa
open Go.ChangeShapes Go.WideShapes Go.ChangeAt Go.RowKit

theorem nat_of_u64 {x : Int} (h1 : 0 ≤ x) (h2 : x ≤ 18446744073709551615) : ∃ n : Nat, x = (n : Int) ∧ n < 18446744073709551616 := ⟨x.toNat, by omega, by omega⟩

/-- What Put returns: a row of its own with the bytes r. -/
def PutTo (w : World) (r : List UInt8) (e : Ending) (w' : World) : Prop :=
  ∃ A' c', e = .returned (.slice A' r.length c') ∧ Own w' (fun i => w.heap.size ≤ i) 5 (.slice A' r.length c') (r.map bv) ∧ Fr No w w'

set_option maxHeartbeats 1000000 in
theorem put_long (A : Option Addr) (n c : Nat) (key : Int) (A2 : Option Addr) (m c2 : Nat) (l : List UInt8) (w : World) (B : Nat) (hA : A = none → n = 0) (hl : l.length = n) (hr : Rd w B A (l.map bv)) (hsz : n ≤ 140737488355000) (hm : 65536 < m) :
    Calls Try.prog 99 #[.slice A n c, .int .i64 key, .slice A2 m c2] w (PutTo w l) := by
  obtain ⟨i0, hi0, hz0, hz1, hz2⟩ := info_parts bytes_info
  have HA := Lib.hid hA
  have HN := Lib.hid hl
  have HR := Lib.hid hr
  have ht : decide ((65536 : Int) < (m : Int)) = true := by simp; omega
  clear hA hl hr
  go_enter Try.func99, Try.ntmps99
  go_wp2_with (at_builtin; refine wpList_append_rd _ rfl _ (.tmp 12) _ rfl 0 5 i0 _ 1 Try.underlying116 hi0 hz0 hz1 hz2 rfl (.slice none 0 0) 0 [] rfl (World.ownsRow_nil _ _ _ _) B A n c (l.map bv) rfl ?c1 ?c2 ?c3 (bv_one l) ?c4 ?c5 (Nat.zero_le _) ?_)
  case c1 => exact HA.out
  case c2 => exact HR.out
  case c3 => rw [List.length_map, HN.out]
  case c4 => unfold maxLen; omega
  case c5 => omega
  intro v1 w1 happ
  obtain ⟨o1, f1⟩ := (Own.nil w (fun i => w.heap.size ≤ i) 5).appendedNew (Nat.le_refl _) rfl (by rw [List.length_map, HN.out]) happ
  rw [List.nil_append] at o1
  obtain ⟨A1, c1, rfl, n1⟩ := o1.form
  rw [List.length_map] at o1 ⊢
  have O1 := Lib.hid o1
  have F1 := Lib.hid ((Fr.refl No w).transNew f1 fun i hi => hi)
  clear happ o1 f1 n1
  go_wp2_with fail
  go_ret
  exact ⟨A1, c1, rfl, O1.out, F1.out⟩

set_option maxRecDepth 100000 in
set_option maxHeartbeats 2000000 in
theorem put_short (A : Option Addr) (n c : Nat) (key : Int) (A2 : Option Addr) (m c2 : Nat) (l p : List UInt8) (w : World) (B : Nat) (hA : A = none → n = 0) (hl : l.length = n) (hr : Rd w B A (l.map bv)) (hA2 : A2 = none → m = 0) (hp : p.length = m) (hr2 : Rd w B A2 (p.map bv)) (hB : B ≤ w.heap.size) (hsz : n ≤ 140737488280000) (hm : m ≤ 65536) :
    Calls Try.prog 99 #[.slice A n c, .int .i64 key, .slice A2 m c2] w (PutTo w (l ++ putN key p)) := by
  obtain ⟨i0, hi0, hz0, hz1, hz2⟩ := info_parts bytes_info
  have hput : putN key p = headN key p ++ p := by unfold putN; rw [if_pos (by rw [hp]; exact hm)]
  have hel := encN_len10 (codeN (m : Int)) (codeN_lt _ (by omega) (by omega))
  obtain ⟨S0, hS0, hSl⟩ := nat_of_u64 (sumI_lo key p) (sumI_hi key p)
  have hS0' : (sumI key p).toNat = S0 := by rw [hS0, Int.toNat_natCast]
  have hhead : headN key p = encN (codeN (m : Int)) ++ leN 8 S0 := by unfold headN; rw [hp, hS0']
  rw [hput, hhead]
  have HA := Lib.hid hA
  have HN := Lib.hid hl
  have HR := Lib.hid hr
  have HA2 := Lib.hid hA2
  have HP := Lib.hid hp
  have HR2 := Lib.hid hr2
  have HS := Lib.hid hS0
  have ht : decide ((65536 : Int) < (m : Int)) = false := by simp; omega
  clear hA hl hr hA2 hp hr2 hS0 hS0' hput hhead
  go_enter Try.func99, Try.ntmps99
  go_wp2_with fail
  refine (int_any A n c (m : Int) l _ B HA.out HN.out HR.out hB (by omega) (by omega) (by omega)).mono ?_
  rintro e w1 ⟨A1, c1, rfl, o1, f1⟩
  generalize encN (codeN (m : Int)) = E at *
  have O1 := Lib.hid o1
  have F1 := Lib.hid f1
  clear o1 f1
  go_wp2_with fail
  refine (sum_any _ _ _ _ p _ HP.out (by unfold maxLen; omega) (HR2.out.frNo F1.out hB)).mono ?_
  rintro e w2 ⟨rfl, rfl⟩
  rw [HS.out]
  go_wp2_with fail
  go_loopw [7, 8, 21] (fun b s i wr => ∃ (A' : Option Addr) (c' k : Nat) (q : List UInt8) (S : Nat), k ≤ 8 ∧ i = .int .i64 (k : Int) ∧ q.length = k ∧ b = .slice A' (n + E.length + k) c' ∧ s = .int .u64 (S : Int) ∧ S < 18446744073709551616 ∧ leN 8 S0 = q ++ leN (8 - k) S ∧ Own wr (fun i => w.heap.size ≤ i) 5 (.slice A' (n + E.length + k) c') ((l ++ (E ++ q)).map bv) ∧ Fr No w wr) (fun _ _ i _ => 8 - (intOf i).toNat)
  case atStart => exact ⟨A1, c1, 0, [], S0, Nat.zero_le _, rfl, rfl, rfl, rfl, hSl, rfl, by simpa using O1.out, F1.out⟩
  case round =>
    obtain ⟨A', c', k, q, S, hk, rfl, hq, rfl, rfl, hS, he, ho, hf⟩ := hrel
    have HQ := Lib.hid hq
    have HE := Lib.hid he
    have O2 := Lib.hid ho
    have F2 := Lib.hid hf
    have hs2 : w.heap.size ≤ wr.heap.size := hf.size
    clear hq he ho hf
    by_cases hlt : k < 8
    · have hb : [Value.int .u8 ((S : Int) % 256)] = [UInt8.ofNat (S % 256)].map bv := by
        simp only [List.map_cons, List.map_nil, bv, UInt8.toNat_ofNat']
        rw [show ((S : Int) % 256) = ((S % 256 % 2 ^ 8 : Nat) : Int) from by omega]
      have HB := Lib.hid hb
      have P2 := Lib.hid (O2.out.frNo (fr_alloc wr (.cells #[.int .u8 ((S : Int) % 256)] 5)))
      clear hb
      go_wp2_with (at_builtin; refine wpList_append_rd _ rfl (.tmp 23) (.tmp 26) _ rfl 0 5 i0 _ 1 Try.underlying116 hi0 hz0 hz1 hz2 rfl _ (n + E.length + k) ((l ++ (E ++ q)).map bv) rfl ?c0 (wr.heap.size + 1) _ 1 1 ([UInt8.ofNat (S % 256)].map bv) rfl (fun h => by cases h) ?c1 rfl (bv_one _) ?c4 ?c5 (Nat.zero_le _) ?_)
      case c0 => exact P2.out.own (by rw [List.length_map, List.length_append, List.length_append, HN.out, HQ.out]; omega)
      case c1 => exact Rd.new wr [.int .u8 ((S : Int) % 256)] 5 HB.out
      case c4 => unfold maxLen; omega
      case c5 => omega
      intro v3 w3 happ
      obtain ⟨o3, f3⟩ := P2.out.appendedNew (n := n + E.length + k) (m := 1) (news := [bv (UInt8.ofNat (S % 256))]) (v' := v3) (w' := w3) (by simp; omega) (by rw [List.length_map, List.length_append, List.length_append, HN.out, HQ.out]; omega) rfl (by simpa using happ)
      have e3 : (l ++ (E ++ q)).map bv ++ [bv (UInt8.ofNat (S % 256))] = (l ++ (E ++ (q ++ [UInt8.ofNat (S % 256)]))).map bv := by simp
      have hl3 : ((l ++ (E ++ (q ++ [UInt8.ofNat (S % 256)]))).map bv).length = n + E.length + (k + 1) := by simp [HN.out, HQ.out]; omega
      rw [e3] at o3
      obtain ⟨A3, c3, rfl, n3⟩ := o3.form
      rw [hl3] at o3 ⊢
      have O3 := Lib.hid o3
      have F3 := Lib.hid ((F2.out.alloc (.cells #[.int .u8 ((S : Int) % 256)] 5)).transNew f3 fun i hi => hi)
      clear happ o3 f3 n3 e3 hl3
      go_wp2_with fail
      go_roundw
      case rel =>
        refine ⟨A3, c3, k + 1, q ++ [UInt8.ofNat (S % 256)], S / 256, by omega, by go_num, by simp [HQ.out], rfl, by go_num, by omega, ?_, O3.out, F3.out⟩
        rw [HE.out, show 8 - k = (8 - (k + 1)) + 1 from by omega]
        simp [leN]
      case measure => simp [intOf]; omega
    · obtain rfl : k = 8 := by omega
      have he8 : leN 8 S0 = q := by rw [HE.out]; simp [leN]
      have P2 := O2.out
      rw [← he8] at P2
      have O2' := Lib.hid P2
      have hfl : ((l ++ (E ++ leN 8 S0)).map bv).length = n + E.length + 8 := by simp [HN.out, leN_length]; omega
      have HFL := Lib.hid hfl
      clear he8 P2 O2 HQ HE hfl
      go_wp2_with (at_builtin; refine wpList_append_rd _ rfl (.tmp 31) (.tmp 32) _ rfl 0 5 i0 _ 1 Try.underlying116 hi0 hz0 hz1 hz2 rfl _ (n + E.length + 8) ((l ++ (E ++ leN 8 S0)).map bv) rfl ?c0 B A2 m c2 (p.map bv) rfl ?c1 ?c2 ?c3 (bv_one _) ?c4 ?c5 (Nat.zero_le _) ?_)
      case c0 => exact O2'.out.own HFL.out
      case c1 => exact HA2.out
      case c2 => exact HR2.out.frNo F2.out hB
      case c3 => rw [List.length_map, HP.out]
      case c4 => unfold maxLen; omega
      case c5 => omega
      intro v3 w3 happ
      obtain ⟨o3, f3⟩ := O2'.out.appendedNew (n := n + E.length + 8) (m := m) (news := p.map bv) (v' := v3) (w' := w3) hs2 HFL.out (by rw [List.length_map, HP.out]) (by simpa using happ)
      have e3 : (l ++ (E ++ leN 8 S0)).map bv ++ p.map bv = (l ++ (E ++ leN 8 S0 ++ p)).map bv := by simp
      rw [e3] at o3
      obtain ⟨A3, c3, rfl, n3⟩ := o3.form
      rw [List.length_map] at o3
      have O3 := Lib.hid o3
      have F3 := Lib.hid (F2.out.transNew f3 fun i hi => hi)
      clear happ o3 f3 n3 e3
      rw [List.length_map]
      generalize (l ++ (E ++ leN 8 S0 ++ p)) = r at *
      go_wp2_with fail
      go_ret
      exact ⟨A3, c3, rfl, O3.out, F3.out⟩
end Go.Proofs.Ytokblidfekbeeaa
/- The contract of frame.Take. -/
namespace Go.Proofs.Ytokblidfekbeeaa
open Go.ChangeShapes Go.WideShapes Go.ChangeAt Go.RowKit

/-- What Take returns. -/
def TakeTo (w : World) (f : Frm) (e : Ending) (w' : World) : Prop :=
  ∃ A c, e = .returned (.tuple #[.slice A f.p.length c, .int .i64 (f.k : Int), .int .i64 f.e]) ∧ Own w' (fun i => w.heap.size ≤ i) 5 (.slice A f.p.length c) (f.p.map bv) ∧ Fr No w w'

theorem TakeTo.err (w : World) (x : Int) : TakeTo w (frmE x) (.returned (.tuple #[.slice none 0 0, .int .i64 0, .int .i64 x])) w :=
  ⟨none, 0, rfl, Own.nil _ _ _, Fr.refl _ _⟩

theorem or_byte (q : List UInt8) (x : UInt8) (k : Nat) (hq : q.length = k) (hk : k < 8) :
    bits BinOp.or IntKind.u64 ((unleN q : Nat) : Int) (IntKind.u64.wrap ((x.toNat : Int) * 2 ^ (8 * k))) = ((unleN (q ++ [x]) : Nat) : Int) := by
  have hx := x.toNat_lt
  have hv := unleN_lt q
  rw [hq] at hv
  have h256 : (2 : Nat) ^ (8 * k) = 256 ^ k := by rw [Nat.pow_mul]
  have hle : 256 ^ k ≤ 256 ^ 7 := Nat.pow_le_pow_right (by omega) (by omega)
  have hle2 : 256 ^ k * x.toNat ≤ 256 ^ 7 * 255 := Nat.mul_le_mul hle (by omega)
  have e2 : (x.toNat : Int) * 2 ^ (8 * k) = ((256 ^ k * x.toNat : Nat) : Int) := by
    rw [← h256]
    push_cast
    rw [Int.mul_comm]
  rw [e2, IntKind.wrap_u64]
  have e3 : ((256 ^ k * x.toNat : Nat) : Int) % 18446744073709551616 = ((256 ^ k * x.toNat : Nat) : Int) := by omega
  rw [e3, u64_or_nat _ _ (by omega) (by omega)]
  congr 1
  rw [Nat.or_comm, ← h256]
  rw [← h256] at hv
  rw [← Nat.two_pow_add_eq_or_of_lt hv, unleN_append, hq]
  simp only [unleN]
  rw [h256, show x.toNat + 256 * 0 = x.toNat from by omega]
  omega

set_option maxRecDepth 100000 in
set_option maxHeartbeats 2000000 in
theorem frtake_any (A : Option Addr) (n c : Nat) (key : Int) (l : List UInt8) (w : World) (B : Nat) (hA : A = none → n = 0) (hl : l.length = n) (hr : Rd w B A (l.map bv)) (hsz : n ≤ 140737488355328) (hnc : n ≤ c) :
    Calls Try.prog 90 #[.slice A n c, .int .i64 key] w (TakeTo w (takeFr key l)) := by
  obtain ⟨i0, hi0, hz0, hz1, hz2⟩ := info_parts bytes_info
  have HA := Lib.hid hA
  have HL := Lib.hid hl
  have HR := Lib.hid hr
  have HD : Hid (takeFr key l = takeFr key l) := rfl
  unfold takeFr at HD
  clear hA hl hr
  by_cases he : (takN l).e = 0
  · obtain ⟨N, n1, n2, n3, n4, n5, n6⟩ := takN_ok l he
    obtain ⟨k, hk⟩ : ∃ k, k = (takN l).k := ⟨_, rfl⟩
    have hkn : k ≤ n := by rw [hk, n4, ← HL.out]; exact n5
    have hTK : takN l = ⟨N, k, 0⟩ := by
      rcases ht : takN l with ⟨x, y, z⟩
      rw [ht] at n3 he hk
      simp only at n3 he hk
      rw [n3, he, hk]
    have TK := Lib.hid hTK
    clear he n3 n4 n5 n6 hk hTK
    by_cases hN0 : N < 0
    · have HF : Hid (takeFr key l = frmE 18) := by
        show takeFr key l = frmE 18
        unfold takeFr
        rw [TK.out, if_neg (by simp), if_pos hN0]
      rw [HF.out]
      go_enter Try.func90, Try.ntmps90
      go_wp2_with fail
      refine (take_any _ _ _ l _ _ HL.out (by unfold maxLen; omega) HR.out).mono ?_
      rintro e w1 ⟨rfl, rfl⟩
      rw [TK.out]
      go_wp2_with fail
      go_ret3
      exact TakeTo.err _ _
    · by_cases hN1 : 65536 < N
      · have HF : Hid (takeFr key l = frmE 2) := by
          show takeFr key l = frmE 2
          unfold takeFr
          rw [TK.out, if_neg (by simp), if_neg hN0, if_pos hN1]
        rw [HF.out]
        go_enter Try.func90, Try.ntmps90
        go_wp2_with fail
        refine (take_any _ _ _ l _ _ HL.out (by unfold maxLen; omega) HR.out).mono ?_
        rintro e w1 ⟨rfl, rfl⟩
        rw [TK.out]
        go_wp2_with fail
        go_ret3
        exact TakeTo.err _ _
      · obtain ⟨m, rfl⟩ : ∃ m : Nat, N = (m : Int) := ⟨N.toNat, by omega⟩
        by_cases hsh : (n : Int) - k < 8 + (m : Int)
        · have HF : Hid (takeFr key l = frmE 17) := by
            show takeFr key l = frmE 17
            unfold takeFr
            rw [TK.out, if_neg (by simp), if_neg hN0, if_neg hN1, if_pos (by rw [HL.out]; exact hsh)]
          rw [HF.out]
          go_enter Try.func90, Try.ntmps90
          go_wp2_with fail
          refine (take_any _ _ _ l _ _ HL.out (by unfold maxLen; omega) HR.out).mono ?_
          rintro e w1 ⟨rfl, rfl⟩
          rw [TK.out]
          go_wp2_with fail
          go_ret3
          exact TakeTo.err _ _
        · have hfit : k + 8 + m ≤ n := by omega
          have hm1 : m ≤ 65536 := by omega
          clear hN0 hN1
          go_enter Try.func90, Try.ntmps90
          go_wp2_with fail
          refine (take_any _ _ _ l _ _ HL.out (by unfold maxLen; omega) HR.out).mono ?_
          rintro e w1 ⟨rfl, rfl⟩
          rw [TK.out]
          go_wp2_with fail
          go_loop [10, 39] (fun s i => ∃ (j : Nat), j ≤ 8 ∧ i = .int .i64 (j : Int) ∧ s = .int .u64 ((unleN ((l.drop k).take j) : Nat) : Int)) (fun _ i => 8 - (intOf i).toNat)
          case atStart => exact ⟨0, Nat.zero_le _, rfl, rfl⟩
          case round =>
            obtain ⟨j, hj, rfl, rfl⟩ := hrel
            by_cases hlt : j < 8
            · obtain ⟨b, off, rfl, _, hc⟩ := HR.out.at_ (by rw [List.length_map, HL.out]; omega)
              have hck := hc (k + j) (by rw [List.length_map, HL.out]; omega)
              simp only [List.getElem_map] at hck
              have hx256 : (l[k + j]'(by rw [HL.out]; omega)).toNat < 256 := UInt8.toNat_lt _
              clear hc
              have hor := or_byte ((l.drop k).take j) (l[k + j]'(by rw [HL.out]; omega)) j (by rw [List.length_take, List.length_drop, HL.out]; omega) hlt
              have hsn : (l.drop k).take (j + 1) = (l.drop k).take j ++ [l[k + j]'(by rw [HL.out]; omega)] := by
                rw [List.take_succ_eq_append_getElem (by rw [List.length_drop, HL.out]; omega), List.getElem_drop]
              have HO := Lib.hid hor
              have HSN := Lib.hid hsn
              clear hor hsn
              go_wp2_with fail
              refine ⟨⟨j + 1, by omega, by go_num, ?_⟩, by simp [intOf]; omega⟩
              rw [HO.out, HSN.out]
            · obtain rfl : j = 8 := by omega
              obtain ⟨U, hU⟩ : ∃ U, U = unleN ((l.drop k).take 8) := ⟨_, rfl⟩
              rw [← hU]
              have HU := Lib.hid hU
              clear hU
              have hkc : k + 8 + m ≤ c := by omega
              obtain ⟨p, hp⟩ : ∃ p, p = (l.drop (k + 8)).take m := ⟨_, rfl⟩
              have HPL : Hid (p.length = m) := by
                show p.length = m
                rw [hp, List.length_take, List.length_drop, HL.out]
                omega
              have hpm : p.length ≤ 65536 := by rw [HPL.out]; exact hm1
              obtain ⟨S0, hS0, hSl⟩ := nat_of_u64 (sumI_lo key p) (sumI_hi key p)
              have HS := Lib.hid hS0
              have HOK : Hid (U = S0 → takeFr key l = ⟨p, k + 8 + m, 0⟩) := by
                show U = S0 → takeFr key l = ⟨p, k + 8 + m, 0⟩
                intro hus
                unfold takeFr
                rw [TK.out, if_neg (by simp), if_neg (by simp only; omega), if_neg (by simp only; omega), if_neg (by simp only; rw [HL.out]; omega)]
                simp only [Int.toNat_natCast]
                rw [← HU.out, ← hp, hS0, if_neg (by rw [hus]; simp)]
              have HNO : Hid (¬ U = S0 → takeFr key l = frmE 18) := by
                show ¬ U = S0 → takeFr key l = frmE 18
                intro hus
                unfold takeFr
                rw [TK.out, if_neg (by simp), if_neg (by simp only; omega), if_neg (by simp only; omega), if_neg (by simp only; rw [HL.out]; omega)]
                simp only [Int.toNat_natCast]
                rw [← HU.out, ← hp, hS0, if_pos (by intro h; exact hus (Int.natCast_inj.1 h))]
              have HPD := Lib.hid hp
              clear hp hS0 hm1 TK
              by_cases hcc : c = k + 8
              · obtain rfl : m = 0 := by omega
                have HP0 : Hid (p = []) := List.eq_nil_of_length_eq_zero HPL.out
                subst hcc
                go_wp2_with (at_builtin; refine wpList_append_rd _ rfl _ (.tmp 64) _ rfl 0 5 i0 _ 1 Try.underlying116 hi0 hz0 hz1 hz2 rfl (.slice none 0 0) 0 [] rfl (World.ownsRow_nil _ _ _ _) B _ _ _ (p.map bv) rfl ?c1 ?c2 ?c3 (bv_one p) ?c4 ?c5 (Nat.zero_le _) ?_)
                case c2 => rw [HP0.out]; exact Rd.nil
                case c3 => rw [HP0.out]
                intro v2 w2 happ
                obtain ⟨o2, f2⟩ := (Own.nil w (fun i => w.heap.size ≤ i) 5).appendedNew (Nat.le_refl _) rfl (by rw [List.length_map, HPL.out]) happ
                rw [List.nil_append] at o2
                obtain ⟨A2, c2, rfl, n2⟩ := o2.form
                rw [List.length_map] at o2 ⊢
                have O2 := Lib.hid o2
                have F2 := Lib.hid ((Fr.refl No w).transNew f2 fun i hi => hi)
                clear happ o2 f2 n2
                go_wp2_with fail
                refine (sum_any _ _ _ _ p _ rfl (by unfold maxLen; omega) O2.out.rd).mono ?_
                rintro e w3 ⟨rfl, rfl⟩
                rw [HS.out]
                by_cases hus : U = S0
                · have ht : ((U : Int) != (S0 : Int)) = false := by rw [hus]; simp
                  have HUS := Lib.hid hus
                  clear hus
                  go_wp2_with fail
                  go_ret3
                  rw [HOK.out HUS.out]
                  refine ⟨A2, c2, ?_, O2.out, F2.out⟩
                  simp [HPL.out]
                · have ht : ((U : Int) != (S0 : Int)) = true := by simp; omega
                  have HUS := Lib.hid hus
                  clear hus
                  go_wp2_with fail
                  go_ret3
                  rw [HNO.out HUS.out]
                  exact ⟨none, 0, rfl, Own.nil _ _ _, F2.out⟩
              · obtain ⟨b, off, rfl, hbB, hc⟩ := HR.out.at_ (by rw [List.length_map, HL.out]; omega)
                have R1 : Hid (Rd w B (some ⟨b, off + (k + 8), none⟩) (p.map bv)) := by
                  show Rd w B (some ⟨b, off + (k + 8), none⟩) (p.map bv)
                  rw [HPD.out, List.map_take, List.map_drop]
                  exact (HR.out.drop (k + 8)).take m
                clear hc
                go_wp2_with (at_builtin; refine wpList_append_rd _ rfl _ (.tmp 64) _ rfl 0 5 i0 _ 1 Try.underlying116 hi0 hz0 hz1 hz2 rfl (.slice none 0 0) 0 [] rfl (World.ownsRow_nil _ _ _ _) B _ _ _ (p.map bv) rfl ?d1 ?d2 ?d3 (bv_one p) ?d4 ?d5 (Nat.zero_le _) ?_)
                case d2 => exact R1.out
                case d3 => exact HPL.out
                case d4 => unfold maxLen; omega
                case d5 => omega
                intro v2 w2 happ
                obtain ⟨o2, f2⟩ := (Own.nil w (fun i => w.heap.size ≤ i) 5).appendedNew (Nat.le_refl _) rfl (by rw [List.length_map, HPL.out]) happ
                rw [List.nil_append] at o2
                obtain ⟨A2, c2, rfl, n2⟩ := o2.form
                rw [List.length_map] at o2 ⊢
                have O2 := Lib.hid o2
                have F2 := Lib.hid ((Fr.refl No w).transNew f2 fun i hi => hi)
                clear happ o2 f2 n2
                go_wp2_with fail
                refine (sum_any _ _ _ _ p _ rfl (by unfold maxLen; omega) O2.out.rd).mono ?_
                rintro e w3 ⟨rfl, rfl⟩
                rw [HS.out]
                by_cases hus : U = S0
                · have ht : ((U : Int) != (S0 : Int)) = false := by rw [hus]; simp
                  have HUS := Lib.hid hus
                  clear hus
                  go_wp2_with fail
                  go_ret3
                  rw [HOK.out HUS.out]
                  refine ⟨A2, c2, ?_, O2.out, F2.out⟩
                  simp [HPL.out]
                · have ht : ((U : Int) != (S0 : Int)) = true := by simp; omega
                  have HUS := Lib.hid hus
                  clear hus
                  go_wp2_with fail
                  go_ret3
                  rw [HNO.out HUS.out]
                  exact ⟨none, 0, rfl, Own.nil _ _ _, F2.out⟩
  · have HF : Hid (takeFr key l = frmE (takN l).e) := by
      show takeFr key l = frmE (takN l).e
      unfold takeFr
      rw [if_pos he]
    rw [HF.out]
    have hz : (takN l).n = 0 ∧ (takN l).k = 0 := by
      rcases takF_err 10 [] l with h | h | h
      · exact absurd h he
      · unfold takN; rw [h]; exact ⟨rfl, rfl⟩
      · unfold takN; rw [h]; exact ⟨rfl, rfl⟩
    have ht : ((takN l).e != 0) = true := by simpa using he
    have ht2 : ((takN l).e == 0) = false := by simpa using he
    clear he hz
    go_enter Try.func90, Try.ntmps90
    go_wp2_with fail
    refine (take_any _ _ _ l _ _ HL.out (by unfold maxLen; omega) HR.out).mono ?_
    rintro e w1 ⟨rfl, rfl⟩
    go_wp2_with fail
    go_ret3
    exact (TakeTo.err w (takN l).e)
end Go.Proofs.Ytokblidfekbeeaa
