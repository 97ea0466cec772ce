/-
  Several texts in one: Disk.
-/
import Derived.Test.YtokblidfekbeeaaZ06
import Derived.StillTailTactics
/- The contracts of package disk. -/
namespace Go.Proofs.Ytokblidfekbeeaa
open Go.ChangeShapes Go.WideShapes Go.ChangeAt Go.RowKit

/-- The disk d has the bytes xs, of which k are durable; it lies in blocks of F. -/
def DiskAt (w : World) (F : Nat → Prop) (d : Nat) (xs : List UInt8) (k : Nat) : Prop :=
  ∃ v, Blk w d 125 #[v, .int .i64 (k : Int)] ∧ F d ∧ Own w F 5 v (xs.map bv) ∧ k ≤ xs.length ∧ xs.length ≤ 140737488355328 ∧ ∀ i, F i → i < w.heap.size

/-- What a call leaves of a disk that lay in F. -/
def DiskTo (w : World) (F : Nat → Prop) (d : Nat) (xs : List UInt8) (k : Nat) (w' : World) : Prop :=
  ∃ F', DiskAt w' F' d xs k ∧ (∀ i, F' i → F i ∨ w.heap.size ≤ i) ∧ Fr F w w'

theorem DiskAt.fr {w w' : World} {F G : Nat → Prop} {d : Nat} {xs : List UInt8} {k : Nat} (h : DiskAt w F d xs k) (hf : Fr G w w') (hd : ∀ i, F i → ¬ G i) : DiskAt w' F d xs k := by
  obtain ⟨v, h1, h2, h3, h4, h5, h6⟩ := h
  exact ⟨v, h1.fr hf (hd d h2), h2, h3.fr hf hd, h4, h5, fun i hi => Nat.lt_of_lt_of_le (h6 i hi) hf.size⟩

theorem DiskAt.frNo {w w' : World} {F : Nat → Prop} {d : Nat} {xs : List UInt8} {k : Nat} (h : DiskAt w F d xs k) (hf : Fr No w w') : DiskAt w' F d xs k := h.fr hf fun _ _ hi => hi
theorem DiskAt.lt {w : World} {F : Nat → Prop} {d : Nat} {xs : List UInt8} {k : Nat} (h : DiskAt w F d xs k) : ∀ i, F i → i < w.heap.size := by
  obtain ⟨v, h1, h2, h3, h4, h5, h6⟩ := h
  exact h6

/-- The disk's cells, for a walk. -/
theorem DiskAt.open_ {w : World} {F : Nat → Prop} {d : Nat} {xs : List UInt8} {k : Nat} (h : DiskAt w F d xs k) :
    ∃ A c, Blk w d 125 #[.slice A xs.length c, .int .i64 (k : Int)] ∧ F d ∧ Own w F 5 (.slice A xs.length c) (xs.map bv) ∧ k ≤ xs.length ∧ xs.length ≤ 140737488355328 ∧ (∀ i, F i → i < w.heap.size) ∧
      w.cell? ⟨d, 0, none⟩ = some (.slice A xs.length c) ∧ w.cell? ⟨d, 1, none⟩ = some (.int .i64 (k : Int)) ∧ w.frozen? ⟨d, 0, none⟩ = false ∧ w.frozen? ⟨d, 1, none⟩ = false ∧ (A = none → xs.length = 0) ∧ xs.length ≤ c := by
  obtain ⟨v, h1, h2, h3, h4, h5, h6⟩ := h
  obtain ⟨A, c, rfl, hn⟩ := h3.form
  rw [List.length_map] at h1 h3 hn
  exact ⟨A, c, h1, h2, h3, h4, h5, h6, h1.cell 0, h1.cell 1, h1.frozen 0, h1.frozen 1, hn, h3.cap.1⟩

theorem disk_new (w : World) :
    Calls Try.prog 71 #[] w fun e w' => e = .returned (.pointer (some ⟨w.heap.size, 0, none⟩)) ∧ DiskAt w' (fun i => i = w.heap.size) w.heap.size [] 0 ∧ Fr No w w' := by
  go_enter Try.func71, Try.ntmps71
  go_wp2
  go_ret
  refine ⟨rfl, ⟨.slice none 0 0, Blk.new _ _ _, rfl, Own.nil _ _ _, Nat.le_refl _, by simp, ?_⟩, (Fr.refl _ _).alloc _⟩
  intro i hi
  subst hi
  simp

/-- A store into the disk's own block. -/
theorem disk_stored {w : World} {F : Nat → Prop} {d : Nat} {v v' : Value} {k : Nat} {xs : List UInt8} (i : Nat) (u : Value) (h1 : Blk w d 125 #[v, .int .i64 (k : Int)]) (h3 : Own w F 5 v' (xs.map bv)) :
    Blk (w.setCell ⟨d, i, none⟩ u) d 125 (#[v, .int .i64 (k : Int)].setIfInBounds i u) ∧ Own (w.setCell ⟨d, i, none⟩ u) F 5 v' (xs.map bv) :=
  ⟨h1.set_ i u, h3.fr' (fr_set w ⟨d, i, none⟩ u) (h3.ne_blk h1 (by decide))⟩

theorem disk_sync (w : World) (F : Nat → Prop) (d : Nat) (xs : List UInt8) (k : Nat) (h : DiskAt w F d xs k) :
    Calls Try.prog 87 #[.pointer (some ⟨d, 0, none⟩)] w fun e w' => e = .returned (.tuple #[]) ∧ DiskTo w F d xs xs.length w' := by
  obtain ⟨A, c, h1, h2, h3, h4, h5, h6, c0, c1, f0, f1, hn, hcap⟩ := h.open_
  have H1 := Lib.hid h1
  have H3 := Lib.hid h3
  have H6 := Lib.hid h6
  clear h1 h3 hn h h6
  go_enter Try.func87, Try.ntmps87
  go_wp2
  go_end0
  obtain ⟨g1, g3⟩ := disk_stored 1 (.int .i64 (xs.length : Int)) H1.out H3.out
  exact ⟨rfl, F, ⟨_, g1, h2, g3, Nat.le_refl _, h5, fun i hi => by simpa [World.setCell] using H6.out i hi⟩, fun i hi => .inl hi, (Fr.refl _ _).setCell (.inl h2) _⟩

theorem disk_bytes (w : World) (F : Nat → Prop) (d : Nat) (xs : List UInt8) (k : Nat) (h : DiskAt w F d xs k) :
    Calls Try.prog 89 #[.pointer (some ⟨d, 0, none⟩)] w fun e w' => ∃ A c, e = .returned (.slice A xs.length c) ∧ Own w' (fun i => w.heap.size ≤ i) 5 (.slice A xs.length c) (xs.map bv) ∧ Fr No w w' := by
  obtain ⟨A, c, h1, h2, h3, h4, h5, h6, c0, c1, f0, f1, hn, hcap⟩ := h.open_
  obtain ⟨i0, hi0, hz0, hz1, hz2⟩ := info_parts bytes_info
  have H1 := Lib.hid h1
  have H3 := Lib.hid h3
  have HN := Lib.hid hn
  clear h1 h3 hn h h6
  go_enter Try.func89, Try.ntmps89
  go_wp2_with (at_builtin; refine wpList_append_rd _ rfl _ (.tmp 6) _ rfl 0 5 i0 _ 1 Try.underlying116 hi0 hz0 hz1 hz2 rfl (.slice none 0 0) 0 [] rfl (World.ownsRow_nil _ _ _ _) w.heap.size A xs.length c (xs.map bv) rfl ?c1 ?c2 ?c3 (bv_one xs) ?c4 ?c5 ?c6 ?_)
  case c1 => exact HN.out
  case c2 => exact H3.out.rd
  case c3 => rw [List.length_map]
  case c4 => unfold maxLen; omega
  case c5 => omega
  case c6 => exact Nat.zero_le _
  intro v1 w1 happ
  obtain ⟨o1, o2⟩ := (Own.nil w No 5).appended rfl (by rw [List.length_map]) happ
  rw [List.nil_append] at o1
  obtain ⟨A1, cc1, rfl, _⟩ := o1.form
  rw [List.length_map] at o1 ⊢
  have O1 := Lib.hid o1
  have O2 := Lib.hid o2
  clear happ o1 o2
  go_wp2
  go_ret
  exact ⟨A1, cc1, rfl, O1.out.mono fun i hi => hi.elim False.elim fun h => Nat.le_of_eq h.1.symm, O2.out⟩

theorem disk_append (w : World) (F : Nat → Prop) (d : Nat) (xs : List UInt8) (k : Nat) (h : DiskAt w F d xs k)
    (A2 : Option Addr) (m c2 : Nat) (ys : List UInt8) (B : Nat) (hA : A2 = none → m = 0) (hr : Rd w B A2 (ys.map bv)) (hm : ys.length = m) (hsz : xs.length + m ≤ 140737488355328) :
    Calls Try.prog 98 #[.pointer (some ⟨d, 0, none⟩), .slice A2 m c2] w fun e w' => e = .returned (.tuple #[]) ∧ DiskTo w F d (xs ++ ys) k w' := by
  obtain ⟨A, c, h1, h2, h3, h4, h5, h6, c0, c1, f0, f1, hn, hcap⟩ := h.open_
  obtain ⟨i0, hi0, hz0, hz1, hz2⟩ := info_parts bytes_info
  have H1 := Lib.hid h1
  have H3 := Lib.hid h3
  have H6 := Lib.hid h6
  have HA := Lib.hid hA
  have HR := Lib.hid hr
  have HM := Lib.hid hm
  clear h1 h3 hn h h6 hA hr hm
  go_enter Try.func98, Try.ntmps98
  go_wp2_with (at_builtin; refine wpList_append_rd _ rfl (.tmp 8) (.tmp 9) _ rfl 0 5 i0 _ 1 Try.underlying116 hi0 hz0 hz1 hz2 rfl (.slice A xs.length c) (xs.map bv).length (xs.map bv) rfl H3.out.1 B A2 m c2 (ys.map bv) rfl ?c1 ?c2 ?c3 (bv_one ys) ?c4 ?c5 ?c6 ?_)
  case c1 => exact HA.out
  case c2 => exact HR.out
  case c3 => rw [List.length_map, HM.out]
  case c4 => unfold maxLen; rw [List.length_map]; omega
  case c5 => rw [List.length_map]; omega
  case c6 => exact Nat.zero_le _
  intro v1 w1 happ
  obtain ⟨o1, o2⟩ := H3.out.appended (by rw [List.length_map]) (by rw [List.length_map, HM.out]) happ
  rw [← List.map_append] at o1
  obtain ⟨A1, cc1, rfl, _⟩ := o1.form
  rw [List.length_map] at o1 ⊢
  have hdne : ∀ g, (Value.slice A xs.length c).ownBlock = some g → g ≠ d := H3.out.ne_blk H1.out (by decide)
  have hgr := happ.2.1
  have g1 : Blk w1 d 125 #[.slice A xs.length c, .int .i64 (k : Int)] := (hgr.block d H1.out.lt (fun e => hdne d e.symm rfl)).trans H1.out
  have c0' := g1.cell 0
  have f0' := g1.frozen 0
  simp only [List.getElem?_toArray, List.getElem?_cons_zero] at c0'
  have G1 := Lib.hid g1
  have O1 := Lib.hid o1
  have O2 := Lib.hid o2
  clear happ o1 o2 g1 hgr hdne
  go_wp2
  go_end0
  obtain ⟨g1, g3⟩ := disk_stored 0 (.slice A1 (xs ++ ys).length cc1) G1.out O1.out
  rw [List.length_append] at g1 g3
  have hml := HM.out
  refine ⟨rfl, _, ⟨_, g1, .inl h2, g3, by rw [List.length_append]; omega, by rw [List.length_append]; omega, ?_⟩, ?_, O2.out.setCell (.inl h2) _⟩
  · intro i hi
    simp only [World.setCell, Array.size_modify]
    rcases hi with hi | hi
    · exact Nat.lt_of_lt_of_le (H6.out i hi) O2.out.size
    · exact hi.2
  · intro i hi
    rcases hi with hi | hi
    · exact .inl hi
    · exact .inr (Nat.le_of_eq hi.1.symm)

/-- A disk cut at m, m of its bytes durable from now on at the most. -/
theorem disk_cut {w : World} {F : Nat → Prop} {d : Nat} {A : Option Addr} {c k m : Nat} {xs : List UInt8} (h1 : Blk w d 125 #[.slice A xs.length c, .int .i64 (k : Int)]) (h3 : Own w F 5 (.slice A xs.length c) (xs.map bv)) (hm : m ≤ xs.length) (u : Value) :
    Blk ((w.setCell ⟨d, 0, none⟩ (.slice A m c)).setCell ⟨d, 1, none⟩ u) d 125 #[.slice A m c, u] ∧ Own ((w.setCell ⟨d, 0, none⟩ (.slice A m c)).setCell ⟨d, 1, none⟩ u) F 5 (.slice A m c) ((xs.take m).map bv) := by
  have h3' : Own w F 5 (.slice A m c) ((xs.take m).map bv) := by
    rw [List.map_take]
    exact h3.cut hm
  obtain ⟨g1, g3⟩ := disk_stored 0 (.slice A m c) h1 h3'
  obtain ⟨e1, e3⟩ := disk_stored 1 u g1 g3
  exact ⟨e1, e3⟩

theorem disk_truncate_no (w : World) (F : Nat → Prop) (d : Nat) (xs : List UInt8) (k : Nat) (h : DiskAt w F d xs k) (n : Int) (hno : n < 0 ∨ (xs.length : Int) < n) :
    Calls Try.prog 92 #[.pointer (some ⟨d, 0, none⟩), .int .i64 n] w fun e w' => e = .returned (.int .i64 1) ∧ w = w' := by
  obtain ⟨A, c, h1, h2, h3, h4, h5, h6, c0, c1, f0, f1, hn, hcap⟩ := h.open_
  have H1 := Lib.hid h1
  have H3 := Lib.hid h3
  have H6 := Lib.hid h6
  clear h1 h3 hn h h6
  by_cases hneg : n < 0
  · clear hno
    go_enter Try.func92, Try.ntmps92
    go_wp2
    go_ret
    exact ⟨rfl, rfl⟩
  · have hgt : (xs.length : Int) < n := hno.resolve_left hneg
    clear hno
    go_enter Try.func92, Try.ntmps92
    go_wp2
    go_ret
    exact ⟨rfl, rfl⟩

theorem disk_truncate_yes (w : World) (F : Nat → Prop) (d : Nat) (xs : List UInt8) (k : Nat) (h : DiskAt w F d xs k) (n : Nat) (hyes : n ≤ xs.length) :
    Calls Try.prog 92 #[.pointer (some ⟨d, 0, none⟩), .int .i64 (n : Int)] w fun e w' => e = .returned (.int .i64 0) ∧ DiskTo w F d (xs.take n) (min k n) w' := by
  obtain ⟨A, c, h1, h2, h3, h4, h5, h6, c0, c1, f0, f1, hn, hcap⟩ := h.open_
  have H1 := Lib.hid h1
  have H3 := Lib.hid h3
  have H6 := Lib.hid h6
  clear h1 h3 hn h h6
  have hn0 : decide ((n : Int) < 0) = false := by simp
  have hn1 : decide ((xs.length : Int) < (n : Int)) = false := by simp; omega
  have hn2 : ¬ xs.length < n := by omega
  have hn3 : n ≤ c := by omega
  have hfin : ∀ q : Nat, q = min k n → DiskTo w F d (xs.take n) (min k n) ((w.setCell ⟨d, 0, none⟩ (.slice A n c)).setCell ⟨d, 1, none⟩ (.int .i64 (q : Int))) := by
    rintro q rfl
    obtain ⟨g1, g3⟩ := disk_cut H1.out H3.out hyes (.int .i64 ((min k n : Nat) : Int))
    have hl : (xs.take n).length = n := by rw [List.length_take]; omega
    refine ⟨F, ⟨_, g1, h2, g3, by omega, by omega, fun i hi => by simpa [World.setCell] using H6.out i hi⟩, fun i hi => .inl hi, ((Fr.refl _ _).setCell (.inl h2) _).setCell (.inl h2) _⟩
  have HF := Lib.hid hfin
  clear hfin
  by_cases hmin : n < k
  · go_enter Try.func92, Try.ntmps92
    go_wp2
    go_ret
    exact ⟨rfl, HF.out n (by omega)⟩
  · go_enter Try.func92, Try.ntmps92
    go_wp2
    go_ret
    exact ⟨rfl, HF.out k (by omega)⟩

/-- How many bytes a crash leaves. -/
def crashN (len k : Nat) (keep : Int) : Nat := k + (max 0 (min keep ((len : Int) - (k : Int)))).toNat

set_option maxHeartbeats 1000000 in
theorem disk_crash (w : World) (F : Nat → Prop) (d : Nat) (xs : List UInt8) (k : Nat) (h : DiskAt w F d xs k) (keep : Int) :
    Calls Try.prog 88 #[.pointer (some ⟨d, 0, none⟩), .int .i64 keep] w fun e w' => e = .returned (.tuple #[]) ∧ DiskTo w F d (xs.take (crashN xs.length k keep)) (crashN xs.length k keep) w' := by
  obtain ⟨A, c, h1, h2, h3, h4, h5, h6, c0, c1, f0, f1, hn, hcap⟩ := h.open_
  have H1 := Lib.hid h1
  have H3 := Lib.hid h3
  have H6 := Lib.hid h6
  have hfin : ∀ (q j : Nat), crashN xs.length k keep = q → DiskTo w F d (xs.take (crashN xs.length k keep)) (crashN xs.length k keep) (((w.drewN j).setCell ⟨d, 0, none⟩ (.slice A q c)).setCell ⟨d, 1, none⟩ (.int .i64 (q : Int))) := by
    intro q j hq
    have hqx : q ≤ xs.length := by subst hq; unfold crashN; omega
    rw [hq]
    have h1' : Blk (w.drewN j) d 125 #[.slice A xs.length c, .int .i64 (k : Int)] := h1
    have h3' : Own (w.drewN j) F 5 (.slice A xs.length c) (xs.map bv) := h3
    obtain ⟨g1, g3⟩ := disk_cut h1' h3' hqx (.int .i64 (q : Int))
    have hl : (xs.take q).length = q := by rw [List.length_take]; omega
    exact ⟨F, ⟨_, g1, h2, g3, by omega, by omega, fun i hi => by simpa [World.setCell] using h6 i hi⟩, fun i hi => .inl hi, (((Fr.refl _ _).drewN j).setCell (.inl h2) _).setCell (.inl h2) _⟩
  have HF := Lib.hid hfin
  obtain ⟨p, hp⟩ : ∃ p, xs.length = k + p := ⟨xs.length - k, by omega⟩
  rw [hp] at c0 hcap h5
  have HP := Lib.hid hp
  clear h1 h3 hn h h6 hfin h4 hp
  by_cases hk1 : keep ≤ 0
  · have HC : Hid (crashN xs.length k keep = k) := by
      have hp := HP.out
      show crashN xs.length k keep = k
      unfold crashN; omega
    go_enter Try.func88, Try.ntmps88
    go_wp2
    go_quiet (fail)
    go_wp2
    go_region
    go_wp2
    go_end0
    exact ⟨rfl, HF.out k _ HC.out⟩
  · obtain ⟨kp, rfl⟩ : ∃ kp : Nat, keep = (kp : Int) := ⟨keep.toNat, by omega⟩
    by_cases hk2 : kp < p
    · have HC : Hid (crashN xs.length k (kp : Int) = k + kp) := by
        have hp := HP.out
        show crashN xs.length k (kp : Int) = k + kp
        unfold crashN; omega
      go_enter Try.func88, Try.ntmps88
      go_wp2
      go_quiet (fail)
      go_wp2
      go_region
      go_wp2
      go_end0
      have := HF.out (k + kp) (nq + 1) HC.out
      rw [Int.natCast_add] at this
      exact ⟨rfl, this⟩
    · have HC : Hid (crashN xs.length k (kp : Int) = k + p) := by
        have hp := HP.out
        show crashN xs.length k (kp : Int) = k + p
        unfold crashN; omega
      by_cases hp0 : p = 0
      · subst hp0
        rw [Nat.add_zero] at c0 hcap h5
        go_enter Try.func88, Try.ntmps88
        go_wp2
        go_quiet (fail)
        go_wp2
        try rw [Int.sub_self]
        go_region
        go_wp2
        go_end0
        exact ⟨rfl, HF.out k (nq + 1) HC.out⟩
      · have hp1 : 0 < p := by omega
        have hp2 : p ≤ kp := by omega
        clear hp0 hk2
        go_enter Try.func88, Try.ntmps88
        go_wp2
        go_quiet (fail)
        go_wp2
        rw [show ((k : Int) + (p : Int) - (k : Int)) = (p : Int) from by omega]
        by_cases hp3 : p = kp
        · subst hp3
          go_region
          go_wp2
          go_end0
          have := HF.out (k + p) (nq + 1) HC.out
          rw [Int.natCast_add] at this
          exact ⟨rfl, this⟩
        · have hp4 : p < kp := by omega
          clear hp3 hp2
          go_region
          go_wp2
          go_end0
          have := HF.out (k + p) (nq + 1) HC.out
          rw [Int.natCast_add] at this
          exact ⟨rfl, this⟩
end Go.Proofs.Ytokblidfekbeeaa
