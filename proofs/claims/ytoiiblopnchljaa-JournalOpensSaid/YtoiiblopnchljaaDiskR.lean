/-
  The contracts of the reference's disk, and of both disks' Copy.
-/
import Derived.Test.YtoiiblopnchljaaDisk
import Derived.Deep.RegionHeld3
import Derived.IntWalk
namespace Go.Proofs.Ytoiiblopnchljaa
open Go.ChangeShapes Go.WideShapes Go.ChangeAt Go.RowKit
set_option linter.unusedVariables false

/-- A disk of type T: its bytes, the number of durable ones; it lies in blocks of F. -/
def DskAt (T : TypeId) (w : World) (F : Nat → Prop) (d : Nat) (xs : List UInt8) (k : Nat) : Prop :=
  ∃ v, Blk w d T #[v, .int .i64 (k : Int)] ∧ F d ∧ Own w F 5 v (xs.map bv) ∧ k ≤ xs.length ∧ xs.length ≤ 140737488355328 ∧ ∀ i, F i → i < w.heap.size
def DskTo (T : TypeId) (w : World) (F : Nat → Prop) (d : Nat) (xs : List UInt8) (k : Nat) (w' : World) : Prop :=
  ∃ F', DskAt T w' F' d xs k ∧ (∀ i, F' i → F i ∨ w.heap.size ≤ i) ∧ Fr F w w'
abbrev TDisk : TypeId := 84
abbrev TRDisk : TypeId := 59

section
variable {T : TypeId} {w w' : World} {F G : Nat → Prop} {d : Nat} {xs : List UInt8} {k : Nat}
theorem DskAt.fr (h : DskAt T w F d xs k) (hf : Fr G w w') (hd : ∀ i, F i → ¬ G i) : DskAt T w' F d xs k := by
  obtain ⟨v, h1, h2, h3, h4, h5, h6⟩ := h
  exact ⟨v, h1.fr hf (hd d h2), h2, h3.fr hf hd, h4, h5, fun i hi => Nat.lt_of_lt_of_le (h6 i hi) hf.size⟩
theorem DskAt.frNo (h : DskAt T w F d xs k) (hf : Fr No w w') : DskAt T w' F d xs k := h.fr hf fun _ _ hi => hi
theorem DskAt.lt (h : DskAt T w F d xs k) : ∀ i, F i → i < w.heap.size := by
  obtain ⟨v, h1, h2, h3, h4, h5, h6⟩ := h
  exact h6
theorem DskAt.has (h : DskAt T w F d xs k) : F d := by
  obtain ⟨v, h1, h2, h3, h4, h5, h6⟩ := h
  exact h2
theorem DskAt.dur (h : DskAt T w F d xs k) : k ≤ xs.length := by
  obtain ⟨v, h1, h2, h3, h4, h5, h6⟩ := h
  exact h4
theorem DskAt.open_ (h : DskAt T w F d xs k) :
    ∃ A c, Blk w d T #[.slice A xs.length c, .int .i64 (k : Int)] ∧ F d ∧ Own w F 5 (.slice A xs.length c) (xs.map bv) ∧ k ≤ xs.length ∧ xs.length ≤ 140737488355328 ∧
      w.cell? ⟨d, 0, none⟩ = some (.slice A xs.length c) ∧ w.cell? ⟨d, 1, none⟩ = some (.int .i64 (k : Int)) ∧ w.frozen? ⟨d, 0, none⟩ = false ∧ w.frozen? ⟨d, 1, none⟩ = false ∧ (A = none → xs.length = 0) ∧ xs.length ≤ c := by
  obtain ⟨v, h1, h2, h3, h4, h5, h6⟩ := h
  obtain ⟨A, c, rfl, hn⟩ := h3.form
  rw [List.length_map] at h1 h3 hn
  exact ⟨A, c, h1, h2, h3, h4, h5, h1.cell 0, h1.cell 1, h1.frozen 0, h1.frozen 1, hn, h3.cap.1⟩
theorem dsk_mk {v : Value} (hb : Blk w d T #[v, .int .i64 (k : Int)]) (ho : Own w G 5 v (xs.map bv)) (hk : k ≤ xs.length) (hl : xs.length ≤ 140737488355328) : DskAt T w (fun i => i = d ∨ v.ownBlock = some i) d xs k :=
  ⟨v, hb, .inl rfl, ⟨ho.1, fun g hg => .inr hg⟩, hk, hl, fun i hi => by
    rcases hi with rfl | hi
    · exact hb.lt
    · exact ho.lt i hi⟩
theorem dsk_to {v : Value} (hF : F d) (hb : Blk w' d T #[v, .int .i64 (k : Int)]) (ho : Own w' G 5 v (xs.map bv)) (hG : ∀ i, G i → F i ∨ w.heap.size ≤ i) (hk : k ≤ xs.length) (hl : xs.length ≤ 140737488355328) (hf : Fr F w w') : DskTo T w F d xs k w' := by
  refine ⟨_, dsk_mk hb ho hk hl, fun i hi => ?_, hf⟩
  rcases hi with rfl | hi
  · exact .inl hF
  · exact hG i (ho.2 i hi)
theorem DskTo.weak (h : DskTo T w F d xs k w') (hg : ∀ i, F i → G i) : DskTo T w G d xs k w' := by
  obtain ⟨F', h1, h2, h3⟩ := h
  refine ⟨F', h1, fun i hi => ?_, h3.mono hg⟩
  rcases h2 i hi with h4 | h4
  · exact .inl (hg i h4)
  · exact .inr h4
/-- A store into a disk's own block. -/
theorem dsk_stored {v v' : Value} (i : Nat) (u : Value) (hT : 5 ≠ T) (h1 : Blk w d T #[v, .int .i64 (k : Int)]) (h3 : Own w G 5 v' (xs.map bv)) :
    Blk (w.setCell ⟨d, i, none⟩ u) d T (#[v, .int .i64 (k : Int)].setIfInBounds i u) ∧ Own (w.setCell ⟨d, i, none⟩ u) G 5 v' (xs.map bv) :=
  ⟨h1.set_ i u, h3.fr' (fr_set w ⟨d, i, none⟩ u) (h3.ne_blk h1 hT)⟩
end

/-- A new disk's block laid over a new row. -/
theorem dsk_made {T : TypeId} {w w1 : World} {v : Value} {xs : List UInt8} {k : Nat} (ho : Own w1 (fun i => w.heap.size ≤ i) 5 v (xs.map bv)) (hf : Fr No w w1) (hk : k ≤ xs.length) (hl : xs.length ≤ 140737488355328) :
    ∃ d' F', Ending.returned (.pointer (some ⟨w1.heap.size, 0, none⟩)) = .returned (.pointer (some ⟨d', 0, none⟩)) ∧ DskAt T (w1.alloc (.cells #[v, .int .i64 (k : Int)] T)) F' d' xs k ∧ (∀ i, F' i → w.heap.size ≤ i) ∧ Fr No w (w1.alloc (.cells #[v, .int .i64 (k : Int)] T)) := by
  refine ⟨w1.heap.size, _, rfl, dsk_mk (Blk.new _ _ _) (ho.frNo (fr_alloc _ _)) hk hl, fun i hi => ?_, hf.alloc _⟩
  rcases hi with rfl | hi
  · exact hf.size
  · exact ho.2 i hi

theorem rdisk_new (w : World) :
    Calls Try.prog 51 #[] w fun e w' => e = .returned (.pointer (some ⟨w.heap.size, 0, none⟩)) ∧ DskAt TRDisk w' (fun i => i = w.heap.size) w.heap.size [] 0 ∧ Fr No w w' := by
  go_enter Try.func51, Try.ntmps51
  go_wp2
  go_ret
  refine ⟨rfl, ⟨.slice none 0 0, Blk.new _ _ _, rfl, Own.nil _ _ _, Nat.le_refl _, by simp, ?_⟩, (Fr.refl _ _).alloc _⟩
  intro i hi
  subst hi
  simp

theorem rdisk_sync (w : World) (F : Nat → Prop) (d : Nat) (xs : List UInt8) (k : Nat) (h : DskAt TRDisk w F d xs k) :
    Calls Try.prog 64 #[.pointer (some ⟨d, 0, none⟩)] w fun e w' => e = .returned (.tuple #[]) ∧ DskTo TRDisk w F d xs xs.length w' := by
  obtain ⟨A, c, h1, h2, h3, h4, h5, c0, c1, f0, f1, hn, hcap⟩ := h.open_
  have H1 := Lib.hid h1
  have H3 := Lib.hid h3
  clear h1 h3
  clear hn h
  go_enter Try.func64, Try.ntmps64
  go_wp2
  go_end0
  obtain ⟨g1, g3⟩ := dsk_stored 1 (.int .i64 (xs.length : Int)) (by decide) H1.out H3.out
  exact ⟨rfl, dsk_to h2 g1 g3 (fun i hi => .inl hi) (Nat.le_refl _) h5 ((Fr.refl _ _).setCell (.inl h2) _)⟩

set_option maxHeartbeats 1000000 in
theorem rdisk_append (w : World) (F : Nat → Prop) (d : Nat) (xs : List UInt8) (k : Nat) (h : DskAt TRDisk w F d xs k)
    (A2 : Option Addr) (m c2 : Nat) (ys : List UInt8) (B : Nat) (hA : A2 = none → m = 0) (hr : Rd w B A2 (ys.map bv)) (hB : B ≤ w.heap.size) (hm : ys.length = m) (hsz : xs.length + m ≤ 140737488355328) :
    Calls Try.prog 63 #[.pointer (some ⟨d, 0, none⟩), .slice A2 m c2] w fun e w' => e = .returned (.tuple #[]) ∧ DskTo TRDisk w F d (xs ++ ys) k w' := by
  obtain ⟨A, c, h1, h2, h3, h4, h5, c0, c1, f0, f1, hn, hcap⟩ := h.open_
  obtain ⟨i0, hi0, hz0, hz1, hz2⟩ := info_parts bytes_info
  have hdl := h1.lt
  have H1 := Lib.hid h1
  have H3 := Lib.hid h3
  have HN := Lib.hid hn
  have HA := Lib.hid hA
  have HR := Lib.hid hr
  have HM := Lib.hid hm
  clear h1 h3 hn hA hr hm
  clear h
  go_enter Try.func63, Try.ntmps63
  go_wp2_with (at_builtin; refine wpList_append_rd _ rfl (.tmp 5) (.tmp 9) _ rfl 0 5 i0 _ 1 Try.underlying52 hi0 hz0 hz1 hz2 rfl _ (0) ([]) rfl ?k1a (w.heap.size) (A) (xs.length) (c) (xs.map bv) rfl ?k1b ?k1c ?k1d (bv_one _) ?k1e ?k1f (Nat.zero_le _) ?_)
  case k1a => exact (Own.made w 5).1
  case k1b => exact HN.out
  case k1c => exact (H3.out.rd.frNo (fr_alloc _ _) (Nat.le_refl _))
  case k1d => exact (by rw [List.length_map])
  case k1e => unfold maxLen; omega
  case k1f => omega
  intro v1 w1 happ
  obtain ⟨o1, f1'⟩ := (Own.made w 5).appendedNew (by simp) rfl (by rw [List.length_map]) happ
  rw [List.nil_append] at o1
  have g1 := (fr_alloc w (.cells #[] 5)).transNew f1' fun i hi => hi
  have hs1 := g1.size
  have O1 := Lib.hid o1
  have G1 := Lib.hid g1
  clear o1 g1
  clear happ f1'
  go_wp2_with (at_builtin; refine wpList_append_rd _ rfl (.tmp 10) (.tmp 11) _ rfl 0 5 i0 _ 1 Try.underlying52 hi0 hz0 hz1 hz2 rfl _ (xs.length) (xs.map bv) rfl ?k2a (B) (A2) (m) (c2) (ys.map bv) rfl ?k2b ?k2c ?k2d (bv_one _) ?k2e ?k2f (Nat.zero_le _) ?_)
  case k2a => exact (O1.out.own (by rw [List.length_map]))
  case k2b => exact HA.out
  case k2c => exact (HR.out.frNo G1.out hB)
  case k2d => exact (by rw [List.length_map, HM.out])
  case k2e => unfold maxLen; omega
  case k2f => omega
  intro v2 w2 happ
  obtain ⟨o2, f2⟩ := O1.out.appendedNew hs1 (by rw [List.length_map]) (by rw [List.length_map, HM.out]) happ
  rw [← List.map_append] at o2
  have g2 := G1.out.transNew f2 fun i hi => hi
  have b2 := H1.out.fr g2 (fun h => h)
  have c0' := b2.cell 0
  have f0' := b2.frozen 0
  simp only [List.getElem?_toArray, List.getElem?_cons_zero] at c0'
  obtain ⟨A4, c4, rfl, n4⟩ := o2.form
  rw [List.length_map] at o2 ⊢
  have O2 := Lib.hid o2
  have G2 := Lib.hid g2
  have B2 := Lib.hid b2
  clear o2 g2 b2
  clear happ f2 n4
  go_wp2_with fail
  go_end0
  obtain ⟨e1, e3⟩ := dsk_stored 0 (.slice A4 (xs ++ ys).length c4) (by decide) B2.out O2.out
  have hml := HM.out
  rw [List.length_append] at e1 e3
  exact ⟨rfl, dsk_to h2 e1 e3 (fun i hi => .inr hi) (by rw [List.length_append]; omega) (by rw [List.length_append]; omega) ((G2.out.mono fun i hi => hi.elim).setCell (.inl h2) _)⟩

theorem rdisk_truncate_no (w : World) (F : Nat → Prop) (d : Nat) (xs : List UInt8) (k : Nat) (h : DskAt TRDisk w F d xs k) (n : Int) (hno : n < 0 ∨ (xs.length : Int) < n) :
    Calls Try.prog 81 #[.pointer (some ⟨d, 0, none⟩), .int .i64 n] w fun e w' => e = .returned (.int .i64 1) ∧ w = w' := by
  obtain ⟨A, c, h1, h2, h3, h4, h5, c0, c1, f0, f1, hn, hcap⟩ := h.open_
  have H1 := Lib.hid h1
  have H3 := Lib.hid h3
  clear h1 h3
  clear hn h
  by_cases hneg : n < 0
  · clear hno
    go_enter Try.func81, Try.ntmps81
    go_wp2
    go_ret
    exact ⟨rfl, rfl⟩
  · have hgt : (xs.length : Int) < n := hno.resolve_left hneg
    clear hno
    go_enter Try.func81, Try.ntmps81
    go_wp2
    go_ret
    exact ⟨rfl, rfl⟩

/-- What a cut of the reference's disk leaves: a new row. -/
theorem rdisk_cut {w w2 : World} {F : Nat → Prop} {d : Nat} {v v2 : Value} {k q : Nat} {ys : List UInt8} (hF : F d) (hb : Blk w d TRDisk #[v, .int .i64 (k : Int)]) (ho : Own w2 (fun i => w.heap.size ≤ i) 5 v2 (ys.map bv)) (hf : Fr No w w2) (hq : q ≤ ys.length) (hl : ys.length ≤ 140737488355328) :
    DskTo TRDisk w F d ys q ((w2.setCell ⟨d, 0, none⟩ v2).setCell ⟨d, 1, none⟩ (.int .i64 (q : Int))) := by
  obtain ⟨e1, e3⟩ := dsk_stored 0 v2 (by decide) (hb.fr hf (fun h => h)) ho
  obtain ⟨e4, e5⟩ := dsk_stored 1 (.int .i64 (q : Int)) (by decide) e1 e3
  exact dsk_to hF e4 e5 (fun i hi => .inr hi) hq hl (((hf.mono fun i hi => hi.elim).setCell (.inl hF) _).setCell (.inl hF) _)

set_option maxHeartbeats 1000000 in
theorem rdisk_truncate_yes (w : World) (F : Nat → Prop) (d : Nat) (xs : List UInt8) (k : Nat) (h : DskAt TRDisk w F d xs k) (n : Nat) (hyes : n ≤ xs.length) :
    Calls Try.prog 81 #[.pointer (some ⟨d, 0, none⟩), .int .i64 (n : Int)] w fun e w' => e = .returned (.int .i64 0) ∧ DskTo TRDisk w F d (xs.take n) (min k n) w' := by
  obtain ⟨A, c, h1, h2, h3, h4, h5, c0, c1, f0, f1, hn, hcap⟩ := h.open_
  obtain ⟨i0, hi0, hz0, hz1, hz2⟩ := info_parts bytes_info
  have hdl := h1.lt
  have htl : (xs.take n).length = n := by rw [List.length_take]; omega
  have hcut := h3.cut (k := n) hyes
  rw [← List.map_take] at hcut
  generalize xs.take n = ys at *
  have hnn : A = none → n = 0 := fun h => by have := hn h; omega
  have H1 := Lib.hid h1
  have H3 := Lib.hid h3
  have HCUT := Lib.hid hcut
  have HTL := Lib.hid htl
  have HNN := Lib.hid hnn
  clear h1 h3 hcut htl hnn
  clear h hn
  have hn0 : decide ((n : Int) < 0) = false := by simp
  have hn1 : decide ((xs.length : Int) < (n : Int)) = false := by simp; omega
  have hn2 : ¬ xs.length < n := by omega
  have hn3 : n ≤ c := by omega
  have hfin : ∀ (w2 : World) (v2 : Value) (q : Nat), Own w2 (fun i => w.heap.size ≤ i) 5 v2 (ys.map bv) → Fr No w w2 → q = min k n → DskTo TRDisk w F d ys (min k n) ((w2.setCell ⟨d, 0, none⟩ v2).setCell ⟨d, 1, none⟩ (.int .i64 (q : Int))) := by
    rintro w2 v2 q ho hf rfl
    have := HTL.out
    exact rdisk_cut h2 H1.out ho hf (by omega) (by omega)
  have HFIN := Lib.hid hfin
  clear hfin
  by_cases hmin : n < k
  all_goals
    go_enter Try.func81, Try.ntmps81
    go_wp2_with (at_builtin; refine wpList_append_rd _ rfl (.tmp 17) (.tmp 23) _ rfl 0 5 i0 _ 1 Try.underlying52 hi0 hz0 hz1 hz2 rfl _ (0) ([]) rfl ?k3a (w.heap.size) (A) (n) (c) (ys.map bv) rfl ?k3b ?k3c ?k3d (bv_one _) ?k3e ?k3f (Nat.zero_le _) ?_)
    case k3a => exact (Own.made w 5).1
    case k3b => exact HNN.out
    case k3c => exact (HCUT.out.rd.frNo (fr_alloc _ _) (Nat.le_refl _))
    case k3d => exact (by rw [List.length_map, HTL.out])
    case k3e => unfold maxLen; omega
    case k3f => omega
    intro v1 w1 happ
    obtain ⟨o1, f1'⟩ := (Own.made w 5).appendedNew (by simp) rfl (by rw [List.length_map, HTL.out]) happ
    rw [List.nil_append] at o1
    have g1 := (fr_alloc w (.cells #[] 5)).transNew f1' fun i hi => hi
    have b1 := H1.out.fr g1 (fun h => h)
    have c0' := b1.cell 0
    have c1' := b1.cell 1
    have f0' := b1.frozen 0
    have f1'' := b1.frozen 1
    simp only [List.getElem?_toArray, List.getElem?_cons_zero, List.getElem?_cons_succ] at c0' c1'
    obtain ⟨A4, c4, rfl, n4⟩ := o1.form
    rw [List.length_map] at o1 ⊢
    have O1 := Lib.hid o1
    have G1 := Lib.hid g1
    have B1 := Lib.hid b1
    clear o1 g1 b1
    clear happ f1' n4
    go_wp2_with fail
    go_ret
  · exact ⟨rfl, HFIN.out _ _ n O1.out G1.out (by omega)⟩
  · exact ⟨rfl, HFIN.out _ _ k O1.out G1.out (by omega)⟩

theorem crashN_bd (len k : Nat) (keep : Int) (h : k ≤ len) : k ≤ crashN len k keep ∧ crashN len k keep ≤ len := by unfold crashN; omega

set_option maxHeartbeats 2000000 in
theorem rdisk_crash (w : World) (F : Nat → Prop) (d : Nat) (xs : List UInt8) (k : Nat) (h : DskAt TRDisk w F d xs k) (keep : Int) :
    Calls Try.prog 77 #[.pointer (some ⟨d, 0, none⟩), .int .i64 keep] w fun e w' => e = .returned (.tuple #[]) ∧ DskTo TRDisk w F d (xs.take (crashN xs.length k keep)) (crashN xs.length k keep) w' := by
  obtain ⟨A, c, h1, h2, h3, h4, h5, c0, c1, f0, f1, hn, hcap⟩ := h.open_
  obtain ⟨i0, hi0, hz0, hz1, hz2⟩ := info_parts bytes_info
  have hdl := h1.lt
  obtain ⟨hq1, hq2⟩ := crashN_bd xs.length k keep h4
  obtain ⟨q, hq⟩ : ∃ q, crashN xs.length k keep = q := ⟨_, rfl⟩
  rw [hq] at hq1 hq2 ⊢
  have htl : (xs.take q).length = q := by rw [List.length_take]; omega
  have hcut := h3.cut (k := q) hq2
  rw [← List.map_take] at hcut
  generalize xs.take q = ys at *
  have hnn : A = none → q = 0 := fun h => by have := hn h; omega
  have hsub : IntKind.i64.wrap ((xs.length : Int) - (k : Int)) = (xs.length : Int) - (k : Int) := IntWalk.i64_in _ (by omega)
  have hfin : ∀ (w2 : World) (v2 : Value) (j : Nat), Own w2 (fun i => w.heap.size ≤ i) 5 v2 (ys.map bv) → Fr No (w.drewN j) w2 → DskTo TRDisk w F d ys q ((w2.setCell ⟨d, 0, none⟩ v2).setCell ⟨d, 1, none⟩ (.int .i64 (q : Int))) := by
    rintro w2 v2 j ho hf
    exact rdisk_cut h2 h1 ho (((Fr.refl No w).drewN j).transNo hf) (by omega) (by omega)
  have H1 := Lib.hid h1
  have H3 := Lib.hid h3
  have HCUT := Lib.hid hcut
  have HTL := Lib.hid htl
  have HNN := Lib.hid hnn
  have HFIN := Lib.hid hfin
  clear h1 h3 hcut htl hnn hfin
  clear h hn
  unfold crashN at hq
  have hcase : keep ≤ 0 ∨ (0 < keep ∧ keep < (xs.length : Int) - (k : Int)) ∨ (0 < keep ∧ (xs.length : Int) - (k : Int) ≤ keep) := by omega
  rcases hcase with hk1 | ⟨hk1, hk2⟩ | ⟨hk1, hk2⟩
  · have hqk : ((k : Int) + if keep < 0 then 0 else keep) = (q : Int) := by first | omega | (split <;> omega)
    have HQ := Lib.hid hq
    have HQK := Lib.hid hqk
    clear hq hqk
    go_enter Try.func77, Try.ntmps77
    go_wp2
    go_quiet (fail)
    rw [HQK.out]
    try generalize (if keep < 0 then (0 : Int) else keep) = M1
    have c0' : (w.drewN nq).cell? ⟨d, 0, none⟩ = some (.slice A xs.length c) := c0
    have f0' : (w.drewN nq).frozen? ⟨d, 0, none⟩ = false := f0
    have hdl' : d < (w.drewN nq).heap.size := hdl
    have hcr : Rd (w.drewN nq) (w.drewN nq).heap.size A (ys.map bv) := HCUT.out.rd
    have hb : Blk (w.drewN nq) d TRDisk #[.slice A xs.length c, .int .i64 (k : Int)] := H1.out
    have hle : w.heap.size ≤ (w.drewN nq).heap.size := Nat.le_refl _
    have hfw : ∀ (w2 : World) (v2 : Value), Own w2 (fun i => w.heap.size ≤ i) 5 v2 (ys.map bv) → Fr No (w.drewN nq) w2 → DskTo TRDisk w F d ys q ((w2.setCell ⟨d, 0, none⟩ v2).setCell ⟨d, 1, none⟩ (.int .i64 (q : Int))) := fun w2 v2 => HFIN.out w2 v2 nq
    generalize w.drewN nq = W at c0' f0' hdl' hcr hb hle hfw ⊢
    have HCR := Lib.hid hcr
    have HB := Lib.hid hb
    have HFW := Lib.hid hfw
    clear hcr hb hfw
    clear c0 c1 f0 f1 hdl HFIN HCUT H1 H3 hk1 hsub
    have hqc : q ≤ c := by omega
    go_wp2_with (at_builtin; refine wpList_append_rd _ rfl (.tmp 24) (.tmp 30) _ rfl 0 5 i0 _ 1 Try.underlying52 hi0 hz0 hz1 hz2 rfl _ (0) ([]) rfl ?k4a (W.heap.size) (A) (q) (c) (ys.map bv) rfl ?k4b ?k4c ?k4d (bv_one _) ?k4e ?k4f (Nat.zero_le _) ?_)
    case k4a => exact (Own.made W 5).1
    case k4b => exact HNN.out
    case k4c => exact (HCR.out.frNo (fr_alloc _ _) (Nat.le_refl _))
    case k4d => exact (by rw [List.length_map, HTL.out])
    case k4e => unfold maxLen; omega
    case k4f => omega
    intro v1 w1 happ
    obtain ⟨o1, f1'⟩ := (Own.made W 5).appendedNew (by simp) rfl (by rw [List.length_map, HTL.out]) happ
    rw [List.nil_append] at o1
    have g1 := (fr_alloc W (.cells #[] 5)).transNew f1' fun i hi => hi
    have b1 := HB.out.fr g1 (fun h => h)
    have d0 := b1.cell 0
    have d1 := b1.cell 1
    have e0 := b1.frozen 0
    have e1 := b1.frozen 1
    simp only [List.getElem?_toArray, List.getElem?_cons_zero, List.getElem?_cons_succ] at d0 d1
    obtain ⟨A4, c4, rfl, n4⟩ := o1.form
    rw [List.length_map] at o1 ⊢
    have O1 := Lib.hid o1
    have G1 := Lib.hid g1
    clear o1 g1
    clear happ f1' n4 b1
    go_wp2_with fail
    go_end0
    exact ⟨rfl, HFW.out _ _ (O1.out.mono fun i hi => Nat.le_trans hle hi) G1.out⟩
  · have hqk : ((k : Int) + keep) = (q : Int) := by first | omega | (split <;> omega)
    have HQ := Lib.hid hq
    have HQK := Lib.hid hqk
    clear hq hqk
    go_enter Try.func77, Try.ntmps77
    go_wp2
    go_quiet (fail)
    rw [HQK.out]
    try generalize ((12345 : Int)) = M1
    have c0' : (w.drewN nq).cell? ⟨d, 0, none⟩ = some (.slice A xs.length c) := c0
    have f0' : (w.drewN nq).frozen? ⟨d, 0, none⟩ = false := f0
    have hdl' : d < (w.drewN nq).heap.size := hdl
    have hcr : Rd (w.drewN nq) (w.drewN nq).heap.size A (ys.map bv) := HCUT.out.rd
    have hb : Blk (w.drewN nq) d TRDisk #[.slice A xs.length c, .int .i64 (k : Int)] := H1.out
    have hle : w.heap.size ≤ (w.drewN nq).heap.size := Nat.le_refl _
    have hfw : ∀ (w2 : World) (v2 : Value), Own w2 (fun i => w.heap.size ≤ i) 5 v2 (ys.map bv) → Fr No (w.drewN nq) w2 → DskTo TRDisk w F d ys q ((w2.setCell ⟨d, 0, none⟩ v2).setCell ⟨d, 1, none⟩ (.int .i64 (q : Int))) := fun w2 v2 => HFIN.out w2 v2 nq
    generalize w.drewN nq = W at c0' f0' hdl' hcr hb hle hfw ⊢
    have HCR := Lib.hid hcr
    have HB := Lib.hid hb
    have HFW := Lib.hid hfw
    clear hcr hb hfw
    clear c0 c1 f0 f1 hdl HFIN HCUT H1 H3 hk1 hsub
    have hqc : q ≤ c := by omega
    go_wp2_with (at_builtin; refine wpList_append_rd _ rfl (.tmp 24) (.tmp 30) _ rfl 0 5 i0 _ 1 Try.underlying52 hi0 hz0 hz1 hz2 rfl _ (0) ([]) rfl ?k5a (W.heap.size) (A) (q) (c) (ys.map bv) rfl ?k5b ?k5c ?k5d (bv_one _) ?k5e ?k5f (Nat.zero_le _) ?_)
    case k5a => exact (Own.made W 5).1
    case k5b => exact HNN.out
    case k5c => exact (HCR.out.frNo (fr_alloc _ _) (Nat.le_refl _))
    case k5d => exact (by rw [List.length_map, HTL.out])
    case k5e => unfold maxLen; omega
    case k5f => omega
    intro v1 w1 happ
    obtain ⟨o1, f1'⟩ := (Own.made W 5).appendedNew (by simp) rfl (by rw [List.length_map, HTL.out]) happ
    rw [List.nil_append] at o1
    have g1 := (fr_alloc W (.cells #[] 5)).transNew f1' fun i hi => hi
    have b1 := HB.out.fr g1 (fun h => h)
    have d0 := b1.cell 0
    have d1 := b1.cell 1
    have e0 := b1.frozen 0
    have e1 := b1.frozen 1
    simp only [List.getElem?_toArray, List.getElem?_cons_zero, List.getElem?_cons_succ] at d0 d1
    obtain ⟨A4, c4, rfl, n4⟩ := o1.form
    rw [List.length_map] at o1 ⊢
    have O1 := Lib.hid o1
    have G1 := Lib.hid g1
    clear o1 g1
    clear happ f1' n4 b1
    go_wp2_with fail
    go_end0
    exact ⟨rfl, HFW.out _ _ (O1.out.mono fun i hi => Nat.le_trans hle hi) G1.out⟩
  · have hqk : ((k : Int) + if (xs.length : Int) - (k : Int) < keep then (xs.length : Int) - (k : Int) else keep) = (q : Int) := by first | omega | (split <;> omega)
    have HQ := Lib.hid hq
    have HQK := Lib.hid hqk
    clear hq hqk
    go_enter Try.func77, Try.ntmps77
    go_wp2
    go_quiet (fail)
    rw [HQK.out]
    try generalize (if (xs.length : Int) - (k : Int) < keep then (xs.length : Int) - (k : Int) else keep) = M1
    have c0' : (w.drewN nq).cell? ⟨d, 0, none⟩ = some (.slice A xs.length c) := c0
    have f0' : (w.drewN nq).frozen? ⟨d, 0, none⟩ = false := f0
    have hdl' : d < (w.drewN nq).heap.size := hdl
    have hcr : Rd (w.drewN nq) (w.drewN nq).heap.size A (ys.map bv) := HCUT.out.rd
    have hb : Blk (w.drewN nq) d TRDisk #[.slice A xs.length c, .int .i64 (k : Int)] := H1.out
    have hle : w.heap.size ≤ (w.drewN nq).heap.size := Nat.le_refl _
    have hfw : ∀ (w2 : World) (v2 : Value), Own w2 (fun i => w.heap.size ≤ i) 5 v2 (ys.map bv) → Fr No (w.drewN nq) w2 → DskTo TRDisk w F d ys q ((w2.setCell ⟨d, 0, none⟩ v2).setCell ⟨d, 1, none⟩ (.int .i64 (q : Int))) := fun w2 v2 => HFIN.out w2 v2 nq
    generalize w.drewN nq = W at c0' f0' hdl' hcr hb hle hfw ⊢
    have HCR := Lib.hid hcr
    have HB := Lib.hid hb
    have HFW := Lib.hid hfw
    clear hcr hb hfw
    clear c0 c1 f0 f1 hdl HFIN HCUT H1 H3 hk1 hsub
    have hqc : q ≤ c := by omega
    go_wp2_with (at_builtin; refine wpList_append_rd _ rfl (.tmp 24) (.tmp 30) _ rfl 0 5 i0 _ 1 Try.underlying52 hi0 hz0 hz1 hz2 rfl _ (0) ([]) rfl ?k6a (W.heap.size) (A) (q) (c) (ys.map bv) rfl ?k6b ?k6c ?k6d (bv_one _) ?k6e ?k6f (Nat.zero_le _) ?_)
    case k6a => exact (Own.made W 5).1
    case k6b => exact HNN.out
    case k6c => exact (HCR.out.frNo (fr_alloc _ _) (Nat.le_refl _))
    case k6d => exact (by rw [List.length_map, HTL.out])
    case k6e => unfold maxLen; omega
    case k6f => omega
    intro v1 w1 happ
    obtain ⟨o1, f1'⟩ := (Own.made W 5).appendedNew (by simp) rfl (by rw [List.length_map, HTL.out]) happ
    rw [List.nil_append] at o1
    have g1 := (fr_alloc W (.cells #[] 5)).transNew f1' fun i hi => hi
    have b1 := HB.out.fr g1 (fun h => h)
    have d0 := b1.cell 0
    have d1 := b1.cell 1
    have e0 := b1.frozen 0
    have e1 := b1.frozen 1
    simp only [List.getElem?_toArray, List.getElem?_cons_zero, List.getElem?_cons_succ] at d0 d1
    obtain ⟨A4, c4, rfl, n4⟩ := o1.form
    rw [List.length_map] at o1 ⊢
    have O1 := Lib.hid o1
    have G1 := Lib.hid g1
    clear o1 g1
    clear happ f1' n4 b1
    go_wp2_with fail
    go_end0
    exact ⟨rfl, HFW.out _ _ (O1.out.mono fun i hi => Nat.le_trans hle hi) G1.out⟩

set_option maxHeartbeats 1000000 in
theorem disk_copy (w : World) (F : Nat → Prop) (d : Nat) (xs : List UInt8) (k : Nat) (h : DskAt TDisk w F d xs k) :
    Calls Try.prog 65 #[.pointer (some ⟨d, 0, none⟩)] w fun e w' => ∃ d' F', e = .returned (.pointer (some ⟨d', 0, none⟩)) ∧ DskAt TDisk w' F' d' xs k ∧ (∀ i, F' i → w.heap.size ≤ i) ∧ Fr No w w' := by
  obtain ⟨A, c, h1, h2, h3, h4, h5, c0, c1, f0, f1, hn, hcap⟩ := h.open_
  have hdl := h1.lt
  have hka : ∀ W : World, Fr No w W → W.cell? ⟨d, 1, none⟩ = some (.int .i64 (k : Int)) ∧ Fr No w W := fun W hW => ⟨(h1.fr hW (fun h => h)).cell 1, hW⟩
  have hbt : ∀ W : World, Fr No w W → _ := fun W hW => disk_bytes W F d xs k (h.frNo hW)
  have H1 := Lib.hid h1
  have H3 := Lib.hid h3
  have HN := Lib.hid hn
  have H := Lib.hid h
  have HKA := Lib.hid hka
  have HBT := Lib.hid hbt
  clear h1 h3 hn h hka hbt
  go_enter Try.func65, Try.ntmps65
  go_wp2_with fail
  go_region_held3 (fun w' => w'.cell? ⟨d, 1, none⟩ = some (.int .i64 (k : Int)) ∧ Fr No w w') (exact HKA.out _ (by repeat (first | assumption | exact Fr.refl _ _ | refine Fr.alloc ?_ _ | refine Fr.drew ?_ | refine Fr.drewN ?_ _))) (first
    | (go_at_call 39; refine (HBT.out _ (by repeat (first | assumption | exact Fr.refl _ _ | refine Fr.alloc ?_ _ | refine Fr.drew ?_ | refine Fr.drewN ?_ _))).mono ?_; rintro e w1 ⟨A1, c1', rfl, o1, f1'⟩; have O1 := Lib.hid (o1.mono (G := fun i => w.heap.size ≤ i) fun i hi => Nat.le_trans (Fr.size (F := No) (by repeat (first | assumption | exact Fr.refl _ _ | refine Fr.alloc ?_ _ | refine Fr.drew ?_ | refine Fr.drewN ?_ _))) hi); have F1 : Fr No w w1 := Fr.transNo (by repeat (first | assumption | exact Fr.refl _ _ | refine Fr.alloc ?_ _ | refine Fr.drew ?_ | refine Fr.drewN ?_ _)) f1'; clear o1 f1'))
  all_goals
    go_wp2_with fail
    go_ret
    exact dsk_made O1.out F1 h4 h5
end Go.Proofs.Ytoiiblopnchljaa
