/-
  The walk of DiskCopies.
-/
import Derived.Test.YtjhghcdofhpcgaaDiskP
namespace Go.Proofs.Ytjhghcdofhpcgaa
open Go.ChangeShapes Go.WideShapes Go.ChangeAt Go.RowKit
set_option linter.unusedVariables false

/-- Two pairs of disks that share nothing. -/
structure Pair (w0 w : World) (F : Nat → Prop) (d r : Nat) (s : List UInt8 × Nat) (G : Nat → Prop) (e q : Nat) (t : List UInt8 × Nat) : Prop where
  one : TS w0 w F d r s.1 s.2
  two : TS w0 w G e q t.1 t.2
  sep : ∀ i, F i → ¬ G i
theorem Pair.no {w0 w w' : World} {F G : Nat → Prop} {d r e q : Nat} {s t : List UInt8 × Nat} (h : Pair w0 w F d r s G e q t) (hf : Fr No w w') : Pair w0 w' F d r s G e q t := ⟨h.one.no hf, h.two.no hf, h.sep⟩
theorem Pair.swap {w0 w : World} {F G : Nat → Prop} {d r e q : Nat} {s t : List UInt8 × Nat} (h : Pair w0 w F d r s G e q t) : Pair w0 w G e q t F d r s := ⟨h.two, h.one, fun i hi hj => h.sep i hj hi⟩
theorem Pair.to {w0 w w' : World} {F G : Nat → Prop} {d r e q : Nat} {s s' t : List UInt8 × Nat} (h : Pair w0 w F d r s G e q t) (k : TwoTo w F d r s' w') :
    ∃ F', Pair w0 w' F' d r s' G e q t ∧ Fr F w w' ∧ ∀ i, F' i → F i ∨ w.heap.size ≤ i := by
  obtain ⟨F', k1, k2, k3⟩ := h.one.to k
  refine ⟨F', ⟨k1, ⟨h.two.it.fr k2 fun i hi hj => h.sep i hj hi, h.two.new, k1.fr⟩, fun i hi hj => ?_⟩, k2, k3⟩
  rcases k3 i hi with h1 | h1
  · exact h.sep i h1 hj
  · have := h.two.it.lt i hj; omega

theorem pair_copy {w0 w w1 w2 : World} {F G1 G2 : Nat → Prop} {d r e q : Nat} {s : List UInt8 × Nat} (h : TS w0 w F d r s.1 s.2) (h1 : DskAt TDisk w1 G1 e s.1 s.2) (n1 : ∀ i, G1 i → w.heap.size ≤ i) (f1 : Fr No w w1) (h2 : DskAt TRDisk w2 G2 q s.1 s.2) (n2 : ∀ i, G2 i → w1.heap.size ≤ i) (f2 : Fr No w1 w2) :
    Pair w0 w2 F d r s (fun i => G1 i ∨ G2 i) e q s := by
  have l1 := h1.lt
  have l2 := h2.lt
  have z0 := h.fr.size
  have z1 := f1.size
  have z2 := f2.size
  refine ⟨(h.no f1).no f2, ⟨⟨G1, G2, h1.frNo f2, h2, fun i hi hj => ?_, fun i hi => .inl hi, fun i hi => .inr hi, fun i hi => ?_⟩, fun i hi => ?_, (h.fr.transNo f1).transNo f2⟩, fun i hi hj => ?_⟩
  · have := l1 i hi; have := n2 i hj; omega
  · rcases hi with hi | hi
    · have := l1 i hi; omega
    · exact l2 i hi
  · rcases hi with hi | hi
    · have := n1 i hi; omega
    · have := n2 i hi; omega
  · have := h.it.lt i hi
    rcases hj with hj | hj
    · have := n1 i hj; omega
    · have := n2 i hj; omega

/-- A disk of a pair, ready to be read behind new blocks. -/
theorem TS.disk {w0 w : World} {F : Nat → Prop} {d r : Nat} {xs : List UInt8} {k : Nat} (h : TS w0 w F d r xs k) : ∃ F1, DiskAt w F1 d xs k := by
  obtain ⟨F1, F2, h1, _⟩ := h.it
  exact ⟨F1, h1⟩
theorem TS.ref {w0 w : World} {F : Nat → Prop} {d r : Nat} {xs : List UInt8} {k : Nat} (h : TS w0 w F d r xs k) : ∃ F2, DskAt TRDisk w F2 r xs k := by
  obtain ⟨F1, F2, _, h2, _⟩ := h.it
  exact ⟨F2, h2⟩

set_option maxRecDepth 100000 in
set_option maxHeartbeats 4000000 in
theorem DiskCopies_walk (v0 v1 : Value) (w : World) (w0 : In_acts w v0) (w1 : In_acts w v1) :
    Calls Try.prog 7 #[v0, v1] w fun e w' => e = .returned (.bool true) ∧ Below w.heap.size w w' := by
  obtain ⟨A, len, cap, acts, rfl, hacts⟩ := w0.open_
  obtain ⟨A', len', cap', more, rfl, hmore⟩ := w1.open_
  have hcn := hacts.count
  have hcm := hmore.count
  have hM := hacts.most
  have hM' := hmore.most
  unfold maxLen at hM hM'
  have HACTS := Lib.hid hacts
  have HCN := Lib.hid hcn
  have HMORE := Lib.hid hmore
  have HCM := Lib.hid hcm
  clear hacts hcn hmore hcm
  clear w0 w1
  go_enter Try.func7, Try.ntmps7
  go_wp2_with fail
  refine (disk_new _).mono ?_
  rintro e w1 ⟨rfl, d1, f1⟩
  have hs1 := f1.size
  have hl1 := d1.lt w.heap.size rfl
  have D1 := Lib.hid d1
  have F1 := Lib.hid f1
  clear d1 f1
  go_wp2_with fail
  refine (rdisk_new _).mono ?_
  rintro e w2 ⟨rfl, r2, f2⟩
  have ts := ts_new D1.out F1.out r2 f2
  have TS := Lib.hid ts
  clear ts
  clear r2 f2 D1 F1 hl1
  generalize w1.heap.size = r at *
  go_wp2_with fail
  refine (awake7_any _).mono ?_
  rintro e w3 ⟨rfl, f3⟩
  have T3 := Lib.hid (TS.out.no f3)
  clear f3 TS
  go_wp2_with fail
  refine (few7 w _ A len cap acts HACTS.out T3.out.fr).mono ?_
  rintro e w4 ⟨f, rfl, hfew, rfl⟩
  cases f
  · go_wp2_with fail
    refine (awake7_any _).mono ?_
    rintro e w5 ⟨rfl, f5⟩
    go_wp2_with fail
    go_ret
    exact ⟨ret_bool rfl, (T3.out.fr.transNo f5).belowNo⟩
  obtain ⟨hfl, hfb⟩ := hfew rfl
  rw [HCN.out] at hfl
  have HFB := Lib.hid hfb
  clear hfb
  clear hfew
  go_wp2_with fail
  refine (few7 w _ A' len' cap' more HMORE.out T3.out.fr).mono ?_
  rintro e w4 ⟨f, rfl, hfew, rfl⟩
  cases f
  · go_wp2_with fail
    refine (awake7_any _).mono ?_
    rintro e w5 ⟨rfl, f5⟩
    go_wp2_with fail
    go_ret
    exact ⟨ret_bool rfl, (T3.out.fr.transNo f5).belowNo⟩
  obtain ⟨hgl, hgb⟩ := hfew rfl
  rw [HCM.out] at hgl
  have HGB := Lib.hid hgb
  clear hgb
  clear hfew
  go_wp2_with fail
  go_loopw [7] (fun i wr => ∃ (m : Nat) (F : Nat → Prop), m ≤ len ∧ i = .int .i64 m ∧ TS w wr F w.heap.size r (playTo (acts.take m) ([], 0)).1 (playTo (acts.take m) ([], 0)).2 ∧ (playTo (acts.take m) ([], 0)).1.length ≤ 60 * m) (fun i _ => len - (intOf i).toNat)
  case atStart => exact ⟨0, _, Nat.zero_le _, rfl, T3.out, by simp [playTo]⟩
  case round =>
    obtain ⟨m, F, hm, rfl, ht, hlen⟩ := hrel
    clear T3
    generalize hst : playTo (acts.take m) ([], 0) = st at *
    by_cases hlt : m < len
    · obtain ⟨b, off, a, rfl, ha, hok, c0, c1, c2⟩ := HACTS.out.at_ ht.fr hlt
      have hab : a.b.length ≤ 60 := HFB.out a (List.mem_of_getElem? ha)
      have hlen2 := actTo_len a st.1 st.2
      have hnext : playTo (acts.take (m + 1)) ([], 0) = actTo a st.1 st.2 := by rw [List.take_add_one, ha, ← hst]; exact playTo_snoc _ _ _
      have HNEXT := Lib.hid hnext
      have HT := Lib.hid ht
      have HOK := Lib.hid hok
      have HA := Lib.hid ha
      have HST := Lib.hid hst
      clear hnext ht hok ha hst
      go_wp2_with fail
      refine (both_any w _ F _ _ st.1 st.2 HT.out a HOK.out (by omega)).mono ?_
      rintro e w5 ⟨rfl, t5⟩
      obtain ⟨F5, t6, -, -⟩ := HT.out.to t5
      have T6 := Lib.hid t6
      clear t6
      clear t5
      go_wp2_with fail
      go_roundw
      case rel => exact ⟨m + 1, F5, by omega, by go_num, by rw [HNEXT.out]; exact T6.out, by rw [HNEXT.out]; omega⟩
      case measure => simp [intOf]; omega
    · clear hst
      have hst1 : st.1.length ≤ 3600 := by omega
      clear hlen
      have HT := Lib.hid ht
      clear ht
      obtain ⟨F1, hd1⟩ := HT.out.disk
      go_wp2_with fail
      refine (disk_copy wr F1 _ st.1 st.2 hd1).mono ?_
      rintro e w5 ⟨e5, G5, rfl, k5, n5, f5⟩
      obtain ⟨F2, hr1⟩ := (HT.out.no f5).ref
      have K5 := Lib.hid k5
      have N5 := Lib.hid n5
      have F5 := Lib.hid f5
      clear k5 n5 f5
      go_wp2_with fail
      refine (rdisk_copy w5 F2 _ st.1 st.2 hr1).mono ?_
      rintro e w6 ⟨q6, G6, rfl, k6, n6, f6⟩
      have pr := pair_copy HT.out K5.out N5.out F5.out k6 n6 f6
      have PR := Lib.hid pr
      clear pr
      clear hd1 hr1 k6 n6 f6 K5 N5 F5 HT
      generalize (fun i => G5 i ∨ G6 i) = G at *
      go_wp2_with fail
      go_loopw [10] (fun i wq => ∃ (m : Nat) (F : Nat → Prop) (s2 : List UInt8 × Nat), m ≤ len' ∧ i = .int .i64 m ∧ Pair w wq F w.heap.size r s2 G e5 q6 st ∧ s2.1.length ≤ 3600 + 60 * m) (fun i _ => len' - (intOf i).toNat)
      case atStart => exact ⟨0, _, st, Nat.zero_le _, rfl, PR.out, by omega⟩
      case round =>
        obtain ⟨wq, rfl⟩ : ∃ wq : World, wq = wr := ⟨_, rfl⟩
        obtain ⟨m2, Fm, s2, hm2, rfl, hp, hlen⟩ := hrel
        clear PR
        by_cases hlt2 : m2 < len'
        · obtain ⟨b, off, a, rfl, ha, hok, hcells⟩ := HMORE.out.at2 hlt2
          have hab : a.b.length ≤ 60 := HGB.out a (List.mem_of_getElem? ha)
          have hlen2 := actTo_len a s2.1 s2.2
          obtain ⟨Ge, Gq, k1, k2, k3, k4, k5, k6⟩ := hp.two.it
          obtain ⟨A2, cc2, b1, b2, b3, b4', b5', r0, r1, fr0, fr1, bn, bcap⟩ := k2.open_
          have hqq : ∀ V : World, Fr No wq V → V.cell? ⟨q6, 0, none⟩ = some (.slice A2 st.1.length cc2) ∧ V.cell? ⟨q6, 1, none⟩ = some (.int .i64 (st.2 : Int)) := fun V hV => ⟨(b1.fr hV (fun h => h)).cell 0, (b1.fr hV (fun h => h)).cell 1⟩
          have F0 : Fr No w wq := hp.one.fr
          obtain ⟨x0, x1, x2⟩ := hcells wq F0
          have hbo : ∀ V : World, Fr No wq V → Calls Try.prog 18 #[.pointer (some ⟨w.heap.size, 0, none⟩), .pointer (some ⟨r, 0, none⟩), .agg #[.int .i64 a.which, .int .i64 a.n, .slice a.A a.b.length a.c]] V fun e w5 => e = .returned (.bool true) ∧ (∃ F5, Pair w w5 F5 w.heap.size r (actTo a s2.1 s2.2) G e5 q6 st) ∧ Fr No w w5 ∧ (∀ X : World, Fr No w5 X → X.cell? ⟨q6, 0, none⟩ = some (.slice A2 st.1.length cc2) ∧ X.cell? ⟨q6, 1, none⟩ = some (.int .i64 (st.2 : Int))) ∧ Own w5 Gq 5 (.slice A2 st.1.length cc2) (st.1.map bv) ∧ DiskAt w5 Ge e5 st.1 st.2 := by
            intro V hV
            refine (both_any w V Fm _ _ s2.1 s2.2 (hp.one.no hV) a hok (by omega)).mono ?_
            rintro e w5 ⟨rfl, t5⟩
            obtain ⟨F5, p5, f5, -⟩ := (hp.no hV).to t5
            refine ⟨rfl, ⟨F5, p5⟩, p5.one.fr, fun X hX => ?_, (b3.frNo hV).fr f5 (fun i hi hj => hp.sep i hj (k5 i hi)), (k1.frNo hV).fr f5 (fun i hi hj => hp.sep i hj (k4 i hi))⟩
            have b1' := ((b1.fr hV (fun h => h)).fr f5 (fun h => hp.sep _ h (k5 _ b2))).fr hX (fun h => h)
            exact ⟨b1'.cell 0, b1'.cell 1⟩
          have hdd : (st.1 == st.1) = true := by simp
          have hi0 : (0 : Int) ≤ (m2 : Int) := by omega
          have hi1 : (m2 : Int) < (len' : Int) := by omega
          have HQQ := Lib.hid hqq
          have HBO := Lib.hid hbo
          have BN := Lib.hid bn
          have HCELLS := Lib.hid hcells
          have HP := Lib.hid hp
          have HOK := Lib.hid hok
          have HA := Lib.hid ha
          clear hqq hbo bn hcells hp hok ha
          clear k1 k2 k3 k4 k5 k6 b1 b2 b3 fr0 fr1
          go_wp2_with fail
          go_region_held3 (fun V => (V.cell? ⟨b, off + m2 * 3, none⟩ = some (.int .i64 a.which) ∧ V.cell? ⟨b, off + m2 * 3 + 1, none⟩ = some (.int .i64 a.n) ∧ V.cell? ⟨b, off + m2 * 3 + 2, none⟩ = some (.slice a.A a.b.length a.c)) ∧ V.cell? ⟨q6, 0, none⟩ = some (.slice A2 st.1.length cc2) ∧ V.cell? ⟨q6, 1, none⟩ = some (.int .i64 (st.2 : Int))) (first | exact ⟨HCELLS.out _ (by repeat (first | assumption | exact Fr.refl _ _ | refine Fr.alloc ?_ _ | refine Fr.drew ?_ | refine Fr.drewN ?_ _)), HQ5.out _ (by repeat (first | assumption | exact Fr.refl _ _ | refine Fr.alloc ?_ _ | refine Fr.drew ?_ | refine Fr.drewN ?_ _))⟩ | exact ⟨HCELLS.out _ (by repeat (first | assumption | exact Fr.refl _ _ | refine Fr.alloc ?_ _ | refine Fr.drew ?_ | refine Fr.drewN ?_ _)), HQQ.out _ (by repeat (first | assumption | exact Fr.refl _ _ | refine Fr.alloc ?_ _ | refine Fr.drew ?_ | refine Fr.drewN ?_ _))⟩) (first
            | (go_at_call 18; refine (HBO.out _ (by repeat (first | assumption | exact Fr.refl _ _ | refine Fr.alloc ?_ _ | refine Fr.drew ?_ | refine Fr.drewN ?_ _))).mono ?_; rintro e w5 ⟨rfl, p5, F5a, hq5, o5, d5⟩; have HQ5 := Lib.hid hq5; have P5 := Lib.hid p5; have O5 := Lib.hid o5; have D5 := Lib.hid d5; clear hq5 p5 o5 d5)
            | (go_at_call 13; refine (disk_bytes _ Ge e5 st.1 st.2 (D5.out.frNo (by repeat (first | assumption | exact Fr.refl _ _ | refine Fr.alloc ?_ _ | refine Fr.drew ?_ | refine Fr.drewN ?_ _)))).mono ?_; rintro e w6 ⟨A6, c6, rfl, o6, f6⟩; have O6 := Lib.hid o6; have F6 : Fr No w5 w6 := Fr.transNo (by repeat (first | assumption | exact Fr.refl _ _ | refine Fr.alloc ?_ _ | refine Fr.drew ?_ | refine Fr.drewN ?_ _)) f6; have F6a : Fr No w w6 := F5a.transNo F6; clear o6 f6)
            | (go_at_call 15; refine (same_bytes _ _ _ _ _ _ st.1 st.1 _ _ _ O6.out.len.2 rfl O6.out.rd BN.out rfl (O5.out.frNo (by repeat (first | assumption | exact Fr.refl _ _ | refine Fr.alloc ?_ _ | refine Fr.drew ?_ | refine Fr.drewN ?_ _))).rd).mono ?_; rintro e w7 ⟨rfl, rfl⟩)
            | (go_at_call 14; refine (disk_durable _ Ge e5 st.1 st.2 (D5.out.frNo (by repeat (first | assumption | exact Fr.refl _ _ | refine Fr.alloc ?_ _ | refine Fr.drew ?_ | refine Fr.drewN ?_ _)))).mono ?_; rintro e w7 ⟨rfl, rfl⟩))
          all_goals
            obtain ⟨F5, p5⟩ := P5.out
            have P6 := Lib.hid (p5.no F6)
            clear p5 P5 D5 O5 O6 HQ5 HQQ HBO
            go_wp2_with fail
            go_roundw
            case rel => exact ⟨m2 + 1, F5, actTo a s2.1 s2.2, by omega, by go_num, P6.out, by omega⟩
            case measure => simp [intOf]; omega
        · have hs2 : s2.1.length ≤ 7200 := by omega
          clear hlen
          obtain ⟨Fd, hdk⟩ := hp.one.disk
          have HP := Lib.hid hp
          clear hp
          go_wp2_with fail
          refine (disk_bytes wq Fd _ s2.1 s2.2 hdk).mono ?_
          rintro e w7 ⟨A7, c7, rfl, o7, f7⟩
          have ap7 : Apart G (.slice A7 s2.1.length c7) := Apart.new o7 HP.out.two.it.lt
          have P7 := Lib.hid (HP.out.no f7)
          have O7 := Lib.hid o7
          have AP7 := Lib.hid ap7
          clear o7 ap7
          clear f7 hdk HP
          go_wp2_with fail
          go_loopw [12] (fun i wv => ∃ (m : Nat) (G3 : Nat → Prop) (t3 : List UInt8 × Nat), m ≤ len' ∧ i = .int .i64 m ∧ Pair w wv G3 e5 q6 t3 Fm w.heap.size r s2 ∧ t3.1.length ≤ 3600 + 60 * m ∧ Own wv (fun i => wq.heap.size ≤ i) 5 (.slice A7 s2.1.length c7) (s2.1.map bv) ∧ Apart G3 (.slice A7 s2.1.length c7)) (fun i _ => len' - (intOf i).toNat)
          case atStart => exact ⟨0, _, st, Nat.zero_le _, rfl, P7.out.swap, by omega, O7.out, AP7.out⟩
          case round =>
            obtain ⟨wv, rfl⟩ : ∃ wv : World, wv = wr := ⟨_, rfl⟩
            obtain ⟨m3, G3, t3, hm3, rfl, hp3, hlen3, ho3, hap3⟩ := hrel
            clear P7 O7 AP7
            by_cases hlt3 : m3 < len'
            · obtain ⟨b, off, a, rfl, ha, hok, hcells⟩ := HMORE.out.at2 hlt3
              have hab : a.b.length ≤ 60 := HGB.out a (List.mem_of_getElem? ha)
              have hlen2 := actTo_len a t3.1 t3.2
              obtain ⟨x0, x1, x2⟩ := hcells wv hp3.one.fr
              have HCELLS := Lib.hid hcells
              have HP3 := Lib.hid hp3
              have HOK := Lib.hid hok
              have HA := Lib.hid ha
              have HO3 := Lib.hid ho3
              have HAP3 := Lib.hid hap3
              clear hcells hp3 hok ha ho3 hap3
              go_wp2_with fail
              refine (both_any w wv G3 _ _ t3.1 t3.2 HP3.out.one a HOK.out (by omega)).mono ?_
              rintro e w8 ⟨rfl, t8⟩
              obtain ⟨G8, p8, f8, g8⟩ := HP3.out.to t8
              have O8 := Lib.hid (HO3.out.fr' f8 HAP3.out)
              have AP8 := Lib.hid (HAP3.out.next HO3.out g8)
              have P8 := Lib.hid p8
              clear p8
              clear t8 f8 g8
              go_wp2_with fail
              go_roundw
              case rel => exact ⟨m3 + 1, G8, actTo a t3.1 t3.2, by omega, by go_num, P8.out, by omega, O8.out, AP8.out⟩
              case measure => simp [intOf]; omega
            · clear hlen3 hap3
              obtain ⟨Ge, Gq, k1, k2, k3, k4, k5, k6⟩ := hp3.two.it
              obtain ⟨A2, cc2, b1, b2, b3, b4', b5', r0, r1, fr0, fr1, bn, bcap⟩ := k2.open_
              have hka : ∀ V : World, Fr No wv V → V.cell? ⟨r, 1, none⟩ = some (.int .i64 (s2.2 : Int)) := fun V hV => (b1.fr hV (fun h => h)).cell 1
              have hbt : ∀ V : World, Fr No wv V → _ := fun V hV => disk_bytes V Ge w.heap.size s2.1 s2.2 (k1.frNo hV)
              have hdu : ∀ V : World, Fr No wv V → _ := fun V hV => disk_durable V Ge w.heap.size s2.1 s2.2 (k1.frNo hV)
              have F0 : Fr No w wv := hp3.one.fr
              have hself : (s2.1 == s2.1) = true := by simp
              have hqq : ((s2.2 : Int) == (s2.2 : Int)) = true := by simp
              have HKA := Lib.hid hka
              have HBT := Lib.hid hbt
              have HDU := Lib.hid hdu
              have HO3 := Lib.hid ho3
              clear hka hbt hdu ho3
              clear k1 k2 k3 k4 k5 k6 b1 b2 b3 fr0 fr1 hp3 bn r0
              go_wp2_with fail
              go_region_held3 (fun V => V.cell? ⟨r, 1, none⟩ = some (.int .i64 (s2.2 : Int))) (exact HKA.out _ (by repeat (first | assumption | exact Fr.refl _ _ | refine Fr.alloc ?_ _ | refine Fr.drew ?_ | refine Fr.drewN ?_ _))) (first
                | (go_at_call 13; refine (HBT.out _ (by repeat (first | assumption | exact Fr.refl _ _ | refine Fr.alloc ?_ _ | refine Fr.drew ?_ | refine Fr.drewN ?_ _))).mono ?_; rintro e w8 ⟨A8, c8, rfl, o8, f8⟩; have O8 := Lib.hid o8; have F8 : Fr No wv w8 := Fr.transNo (by repeat (first | assumption | exact Fr.refl _ _ | refine Fr.alloc ?_ _ | refine Fr.drew ?_ | refine Fr.drewN ?_ _)) f8; clear o8 f8)
                | (go_at_call 15; refine (same_bytes _ _ _ _ _ _ s2.1 s2.1 _ _ _ O8.out.len.2 rfl O8.out.rd HO3.out.len.2 rfl (HO3.out.frNo (by repeat (first | assumption | exact Fr.refl _ _ | refine Fr.alloc ?_ _ | refine Fr.drew ?_ | refine Fr.drewN ?_ _))).rd).mono ?_; rintro e w9 ⟨rfl, rfl⟩)
                | (go_at_call 14; refine (HDU.out _ (by repeat (first | assumption | exact Fr.refl _ _ | refine Fr.alloc ?_ _ | refine Fr.drew ?_ | refine Fr.drewN ?_ _))).mono ?_; rintro e w9 ⟨rfl, rfl⟩))
              all_goals
                go_wp2_with fail
                go_ret
                exact ⟨ret_bool rfl, (F0.transNo F8).belowNo⟩
end Go.Proofs.Ytjhghcdofhpcgaa
