/-
  The walk of DiskOwn.
-/
import Derived.Test.YtjhghcdofhpcgaaDiskLaws
namespace Go.Proofs.Ytjhghcdofhpcgaa
open Go.ChangeShapes Go.WideShapes Go.ChangeAt Go.RowKit

/-- A store at k into a row of the call's own. -/
theorem Own.stored {w : World} {F : Nat → Prop} {e : TypeId} {b n c : Nat} {xs : List Value} (h : Own w F e (.slice (some ⟨b, 0, none⟩) n c) xs) (k : Nat) (u : Value) :
    Own (w.setCell ⟨b, k, none⟩ u) F e (.slice (some ⟨b, 0, none⟩) n c) (xs.set k u) ∧ Fr F w (w.setCell ⟨b, k, none⟩ u) := by
  obtain ⟨rfl, _⟩ := h.len
  refine ⟨⟨?_, h.2⟩, (Fr.refl F w).setCell (p := ⟨b, k, none⟩) (.inl (h.2 b rfl)) u⟩
  have := (h.1.stored k u).1
  rwa [List.length_set]
/-- Its cells. -/
theorem Own.head {w : World} {F : Nat → Prop} {e : TypeId} {A : Option Addr} {n c : Nat} {xs : List Value} (h : Own w F e (.slice A n c) xs) (hp : 0 < n) :
    ∃ b, A = some ⟨b, 0, none⟩ ∧ b < w.heap.size ∧ F b ∧ ∀ k, (hk : k < xs.length) → w.cell? ⟨b, k, none⟩ = some xs[k] ∧ w.frozen? ⟨b, k, none⟩ = false := by
  obtain ⟨rfl, _⟩ := h.len
  obtain ⟨g, cap, hv, _, hlt⟩ := h.1.form hp
  injection hv with e1 e2 e3
  subst e1 e3
  refine ⟨g, rfl, hlt, h.2 g rfl, fun k hk => ⟨?_, h.1.frozenAt k⟩⟩
  rw [h.1.cellAt k (by omega), List.getElem?_eq_getElem hk]

theorem DS.fr_ {w0 w w' : World} {F G : Nat → Prop} {d k : Nat} {xs : List UInt8} (h : DS w0 w F d xs k) (hf : Fr G w w') (hd : ∀ i, F i → ¬ G i) (hG : ∀ i, G i → w0.heap.size ≤ i) : DS w0 w' F d xs k :=
  ⟨h.it.fr hf hd, h.new, h.fr.transNew hf hG⟩

set_option maxHeartbeats 1000000 in
theorem DiskOwn_walk (a0 : Option Addr) (len0 cap0 : Nat) (z0 : List Int) (a1 : Option Addr) (len1 cap1 : Nat) (z1 : List Int) (a2 : Int) (w : World) (w0 : IsRow .u8 w a0 len0 cap0 z0) (w1 : IsRow .u8 w a1 len1 cap1 z1) (_w2 : (Lit.int .u8 a2).wf = true) (_s0 : cap0 * 1 ≤ 140737488351232) (_s1 : cap1 * 1 ≤ 140737488351232) :
    Calls Try.prog 4 #[.slice a0 len0 cap0, .slice a1 len1 cap1, .int .u8 a2] w fun e w' => e = .returned (.bool true) ∧ Below w.heap.size w w' := by
  obtain ⟨la, hla, -, -, hna, hra⟩ := w0.open_
  obtain ⟨lb, hlb, -, -, hnb, hrb⟩ := w1.open_
  obtain ⟨i0, hi0, hz0, hz1, hz2⟩ := info_parts bytes_info
  have LA := Lib.hid hla
  have LB := Lib.hid hlb
  have NA := Lib.hid hna
  have NB := Lib.hid hnb
  have RA := Lib.hid hra
  have RB := Lib.hid hrb
  clear w0 w1 hla hlb hna hnb hra hrb
  by_cases h0 : len0 ≤ 300
  · by_cases h1 : len1 ≤ 300
    · have hb0 : decide ((300 : Int) < (len0 : Int)) = false := by simp; omega
      have hb1 : decide ((300 : Int) < (len1 : Int)) = false := by simp; omega
      have hla : la.length ≤ 300 := by rw [LA.out]; exact h0
      have hlb : lb.length ≤ 300 := by rw [LB.out]; exact h1
      go_enter Try.func4, Try.ntmps4
      go_wp2_with fail
      refine (disk_new _).mono ?_
      rintro e w1 ⟨rfl, hd, hf⟩
      have D1 : Hid (DS w w1 (fun i => i = w.heap.size) w.heap.size [] 0) := ⟨hd, fun i hi => Nat.le_of_eq hi.symm, hf⟩
      clear hd hf
      go_wp2_with (at_builtin; refine wpList_append_rd _ rfl (.tmp 31) (.tmp 32) _ rfl 0 5 i0 _ 1 Try.underlying22 hi0 hz0 hz1 hz2 rfl _ 0 [] rfl (Own.made w1 5).1 w.heap.size a0 len0 cap0 (la.map bv) rfl ?c1 ?c2 ?c3 (bv_one la) ?c4 ?c5 (Nat.zero_le _) ?_)
      case c1 => exact NA.out
      case c2 => exact RA.out.frNo (D1.out.no (fr_alloc _ _)).fr (Nat.le_refl _)
      case c3 => rw [List.length_map, LA.out]
      case c4 => unfold maxLen; omega
      case c5 => omega
      intro v2 w2 happ
      obtain ⟨o2, f2⟩ := (Own.made w1 5).appendedNew (by simp) rfl (by rw [List.length_map, LA.out]) happ
      rw [List.nil_append] at o2
      have D2 := Lib.hid (D1.out.no ((fr_alloc w1 _).transNew f2 fun i hi => hi))
      have ap2 := Apart.new o2 D1.out.it.lt
      obtain ⟨A2, c2, rfl, n2⟩ := o2.form
      rw [List.length_map] at o2 ap2 n2 ⊢
      have O2 := Lib.hid o2
      have AP2 := Lib.hid ap2
      have N2 := Lib.hid n2
      have S1 := Lib.hid D1.out.fr.size
      clear happ o2 f2 ap2 n2 D1
      go_wp2_with fail
      refine (disk_append _ _ _ _ _ D2.out.it _ _ _ la _ N2.out O2.out.rd rfl (by simp; omega)).mono ?_
      rintro e w3 ⟨rfl, t3⟩
      obtain ⟨F3, d3, f3, s3⟩ := D2.out.to t3
      rw [List.nil_append] at d3
      have D3 := Lib.hid d3
      have O3 := Lib.hid (O2.out.fr' f3 AP2.out)
      have AP3 := Lib.hid (AP2.out.next O2.out s3)
      clear t3 d3 f3 s3 O2 AP2 D2
      go_wp2_with fail
      go_loopw [9] (fun i wr => ∃ (k : Nat) (ys : List Value), k ≤ la.length ∧ i = .int .i64 k ∧ ys.length = la.length ∧ Own wr (fun i => w1.heap.size ≤ i) 5 (.slice A2 la.length c2) ys ∧ DS w wr F3 w.heap.size la 0) (fun i _ => la.length - (intOf i).toNat)
      case atStart => exact ⟨0, _, Nat.zero_le _, rfl, List.length_map _, O3.out, D3.out⟩
      case round =>
        obtain ⟨k, ys, hk, rfl, hys, o4, d4⟩ := hrel
        have HY := Lib.hid hys
        have O4 := Lib.hid o4
        have D4 := Lib.hid d4
        clear hys o4 d4
        by_cases hlt : k < la.length
        · obtain ⟨b, rfl, hblt, hbF, hcell⟩ := O4.out.head (by omega)
          obtain ⟨hck, hfk⟩ := hcell k (by rw [HY.out]; exact hlt)
          clear hcell
          go_wp2_with fail
          go_roundw
          case rel =>
            exact ⟨k + 1, ys.set k (.int .u8 a2), by omega, by go_num, by rw [List.length_set]; exact HY.out, (O4.out.stored k _).1,
              D4.out.fr_ (fr_set wr ⟨b, k, none⟩ _) (fun i hi e => AP3.out b rfl (by simp only at e; exact e ▸ hi)) (fun i e => by have := S1.out; simp only at e; omega)⟩
          case measure => simp [intOf]; omega
        · obtain ⟨wo, rfl⟩ : ∃ wo : World, wo = wr := ⟨_, rfl⟩
          go_wp2_with fail
          refine (disk_bytes _ _ _ _ _ D4.out.it).mono ?_
          rintro e w5 ⟨A5, c5, rfl, o5, f5⟩
          have AP5 := Lib.hid (Apart.new o5 D4.out.it.lt)
          have O5 := Lib.hid o5
          have D5 := Lib.hid (D4.out.no f5)
          have S5 := Lib.hid (Nat.le_trans D4.out.fr.size (Nat.le_refl _))
          clear o5 f5 D4 O4 AP3 HY
          go_wp2_with fail
          go_loopw [11] (fun i wq => ∃ (k : Nat) (ys : List Value), k ≤ la.length ∧ i = .int .i64 k ∧ ys.length = la.length ∧ Own wq (fun i => wo.heap.size ≤ i) 5 (.slice A5 la.length c5) ys ∧ DS w wq F3 w.heap.size la 0) (fun i _ => la.length - (intOf i).toNat)
          case atStart => exact ⟨0, _, Nat.zero_le _, rfl, List.length_map _, O5.out, D5.out⟩
          case round =>
            obtain ⟨j, ys, hj, rfl, hys, o6, d6⟩ := hrel
            have HY := Lib.hid hys
            have O6 := Lib.hid o6
            have D6 := Lib.hid d6
            clear hys o6 d6
            by_cases hlt2 : j < la.length
            · obtain ⟨b, rfl, hblt, hbF, hcell⟩ := O6.out.head (by omega)
              obtain ⟨hck, hfk⟩ := hcell j (by rw [HY.out]; exact hlt2)
              clear hcell
              go_wp2_with fail
              go_roundw
              case rel =>
                exact ⟨j + 1, ys.set j _, by omega, by go_num, by rw [List.length_set]; exact HY.out, (O6.out.stored j _).1,
                  D6.out.fr_ (fr_set _ ⟨b, j, none⟩ _) (fun i hi e => AP5.out b rfl (by simp only at e; exact e ▸ hi)) (fun i e => by have := S5.out; simp only at e; omega)⟩
              case measure => simp [intOf]; omega
            · clear AP5 HY O6
              obtain ⟨wq, rfl⟩ : ∃ wq : World, wq = wr := ⟨_, rfl⟩
              go_wp2_with fail
              refine (disk_bytes _ _ _ _ _ D6.out.it).mono ?_
              rintro e w7 ⟨A7, c7, rfl, o7, f7⟩
              have D7 := Lib.hid (D6.out.no f7)
              have AP7 := Lib.hid (Apart.new o7 D6.out.it.lt)
              have O7 := Lib.hid o7
              have S7 := Lib.hid f7.size
              have L7 := Lib.hid D6.out.it.lt
              have SQ := Lib.hid D6.out.fr.size
              have P7 := Lib.hid (O7.out.frNo (fr_alloc w7 (.cells #[.int .u8 9] 5)))
              clear o7 f7 D5 O5 S5 D6
              go_wp2_with (at_builtin; refine wpList_append_rd _ rfl (.tmp 61) (.tmp 62) _ rfl 0 5 i0 _ 1 Try.underlying22 hi0 hz0 hz1 hz2 rfl _ la.length (la.map bv) rfl ?c0 _ _ 1 1 ([9].map bv) rfl (fun h => by cases h) (Rd.new w7 [.int .u8 9] 5 rfl) rfl (bv_one [9]) ?c4 ?c5 (Nat.zero_le _) ?_)
              case c0 => exact P7.out.own (by rw [List.length_map])
              case c4 => unfold maxLen; omega
              case c5 => omega
              intro v8 w8 happ
              have hsz7 := S7.out
              obtain ⟨o8, f8⟩ := P7.out.appendedNew (by simp; omega) (by rw [List.length_map]) rfl happ
              have D8 := Lib.hid ((D7.out.no (fr_alloc w7 (.cells #[.int .u8 9] 5))).fr_ f8 (fun i hi hg => by have := L7.out i hi; omega) (fun i hi => by have := SQ.out; omega))
              have AP8 := Lib.hid (Apart.new o8 L7.out)
              have e8 : la.map bv ++ [bv 9] = (la ++ [9]).map bv := by simp
              rw [e8] at o8
              obtain ⟨A8, c8, rfl, n8⟩ := o8.form
              rw [List.length_map] at o8 AP8 ⊢
              have O8 := Lib.hid o8
              clear happ o8 f8 hsz7 P7 O7 AP7 e8 n8 L7 SQ S7 D7
              go_wp2_with fail
              refine (disk_append _ _ _ _ _ D8.out.it _ _ _ lb _ NB.out (RB.out.frNo D8.out.fr (Nat.le_refl _)) LB.out (by omega)).mono ?_
              rintro e w9 ⟨rfl, t9⟩
              obtain ⟨F9, d9, f9, s9⟩ := D8.out.to t9
              have D9 := Lib.hid d9
              clear t9 d9 f9 s9 D8 AP8 O8
              go_wp2_with fail
              refine (awake7_any _).mono ?_
              rintro e w10 ⟨rfl, f10⟩
              have D10 := Lib.hid (D9.out.no f10)
              clear f10 D9
              go_wp2_with fail
              refine (disk_bytes _ _ _ _ _ D10.out.it).mono ?_
              rintro e w11 ⟨A11, c11, rfl, o11, f11⟩
              have O11 := Lib.hid o11
              have D11 := Lib.hid (D10.out.no f11)
              clear o11 f11 D10
              go_wp2_with (at_builtin; refine wpList_append_rd _ rfl (.tmp 71) (.tmp 72) _ rfl 0 5 i0 _ 1 Try.underlying22 hi0 hz0 hz1 hz2 rfl _ 0 [] rfl (Own.made w11 5).1 w.heap.size a0 len0 cap0 (la.map bv) rfl ?c1 ?c2 ?c3 (bv_one la) ?c4 ?c5 (Nat.zero_le _) ?_)
              case c1 => exact NA.out
              case c2 => exact RA.out.frNo (D11.out.no (fr_alloc _ _)).fr (Nat.le_refl _)
              case c3 => rw [List.length_map, LA.out]
              case c4 => unfold maxLen; omega
              case c5 => omega
              intro v12 w12 happ
              obtain ⟨o12, f12⟩ := (Own.made w11 5).appendedNew (by simp) rfl (by rw [List.length_map, LA.out]) happ
              rw [List.nil_append] at o12
              have FF := Lib.hid ((fr_alloc w11 (.cells #[] 5)).transNew f12 fun i hi => hi)
              have D12 := Lib.hid (D11.out.no FF.out)
              obtain ⟨A12, c12, rfl, n12⟩ := o12.form
              rw [List.length_map] at o12 ⊢
              have O12 := Lib.hid o12
              have hsz12 : w11.heap.size ≤ w12.heap.size := FF.out.size
              clear happ o12 f12 n12
              go_wp2_with (at_builtin; refine wpList_append_rd _ rfl (.tmp 73) (.tmp 74) _ rfl 0 5 i0 _ 1 Try.underlying22 hi0 hz0 hz1 hz2 rfl _ la.length (la.map bv) rfl ?c0 w.heap.size a1 len1 cap1 (lb.map bv) rfl ?c1 ?c2 ?c3 (bv_one lb) ?c4 ?c5 (Nat.zero_le _) ?_)
              case c0 => exact O12.out.own (by rw [List.length_map])
              case c1 => exact NB.out
              case c2 => exact RB.out.frNo D12.out.fr (Nat.le_refl _)
              case c3 => rw [List.length_map, LB.out]
              case c4 => unfold maxLen; omega
              case c5 => omega
              intro v13 w13 happ
              obtain ⟨o13, f13⟩ := O12.out.appendedNew hsz12 (by rw [List.length_map]) (by rw [List.length_map, LB.out]) happ
              rw [← List.map_append] at o13
              have G13 := FF.out.transNew f13 fun i hi => hi
              have D13 := Lib.hid (D11.out.no G13)
              have y13 := O11.out.frNo G13
              rw [List.length_append] at y13
              have Y13 := Lib.hid y13
              obtain ⟨A13, c13, rfl, n13⟩ := o13.form
              rw [List.length_map, List.length_append] at o13 ⊢
              have O13 := Lib.hid o13
              clear happ o13 y13 f13 n13 FF D11 O11 D12 O12 G13 hsz12
              go_wp2_with fail
              refine (same_bytes _ _ _ _ _ _ (la ++ lb) (la ++ lb) _ _ _ Y13.out.len.2 (List.length_append) Y13.out.rd O13.out.len.2 (List.length_append) O13.out.rd).mono ?_
              rintro e w14 ⟨rfl, rfl⟩
              have hself : (la ++ lb == la ++ lb) = true := by simp
              have hl0 := LA.out
              have hzl : ((la.length : Int) + 1 == (len0 : Int) + 1) = true := by rw [hl0]; simp
              clear hl0
              go_wp2_with fail
              go_ret
              exact ⟨ret_bool (by simp), D13.out.fr.belowNo⟩
    · have hb0 : decide ((300 : Int) < (len0 : Int)) = false := by simp; omega
      have hb1 : decide ((300 : Int) < (len1 : Int)) = true := by simp; omega
      go_enter Try.func4, Try.ntmps4
      go_wp2_with fail
      refine (disk_new _).mono ?_
      rintro e w1 ⟨rfl, hd, hf⟩
      have HF := Lib.hid hf
      clear hd hf
      go_wp2_with fail
      refine (awake7_any _).mono ?_
      rintro e w2 ⟨rfl, f2⟩
      have HF2 := Lib.hid f2
      clear f2
      go_wp2_with fail
      go_ret
      exact ⟨ret_bool (by simp), (HF.out.transNo HF2.out).belowNo⟩
  · have hb0 : decide ((300 : Int) < (len0 : Int)) = true := by simp; omega
    go_enter Try.func4, Try.ntmps4
    go_wp2_with fail
    refine (disk_new _).mono ?_
    rintro e w1 ⟨rfl, hd, hf⟩
    have HF := Lib.hid hf
    clear hd hf
    go_wp2_with fail
    refine (awake7_any _).mono ?_
    rintro e w2 ⟨rfl, f2⟩
    have HF2 := Lib.hid f2
    clear f2
    go_wp2_with fail
    go_ret
    exact ⟨ret_bool (by simp), (HF.out.transNo HF2.out).belowNo⟩
end Go.Proofs.Ytjhghcdofhpcgaa
