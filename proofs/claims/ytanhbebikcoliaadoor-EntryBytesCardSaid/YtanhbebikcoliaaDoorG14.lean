/-
  Several texts in one: EntD, Ebp.
-/
import Derived.Test.YtanhbebikcoliaaDoorEntF
import Derived.Test.YtanhbebikcoliaaDoorG4
import Derived.Test.YtanhbebikcoliaaDoorG0
import Derived.Test.YtanhbebikcoliaaDoorG6
import Derived.Test.YtanhbebikcoliaaDoorG3
/- The contracts of both Reads of an entry. -/
namespace Go.Proofs.YtanhbebikcoliaaDoor
open Go.ChangeShapes Go.WideShapes Go.ChangeAt Go.RowKit
set_option linter.unusedVariables false

abbrev T9 : TypeId := 64
abbrev enZero : En := ⟨0, 0, 0, 0, 0, 0, 0, 0, 0⟩
/-- What Read returns: an entry, the number of its bytes, the error. -/
structure RdT where
  e : En
  k : Nat
  x : Int
def finE (t : IntsT) : RdT := if t.e = 0 then (if shapeB (En.of t.q) then ⟨En.of t.q, t.k, 0⟩ else ⟨enZero, 0, 18⟩) else ⟨enZero, 0, t.e⟩
def readE (l : List UInt8) : RdT := finE (intsG 9 l 0 [])

/-- The numbers that have been read, and zeros. -/
def nums9 (acc : List Int) : Array Value := ((acc ++ List.replicate (9 - acc.length) 0).map iv).toArray
theorem nums9_get (acc : List Int) (k : Nat) (hk : k < 9) (hl : acc.length = k) : (nums9 acc)[k]? = some (.int .i64 0) := by
  unfold nums9
  rw [List.getElem?_toArray, List.getElem?_map, List.getElem?_append_right (by omega), List.getElem?_replicate]
  rw [if_pos (by omega)]
  rfl
theorem nums9_set (acc : List Int) (x : Int) (h : acc.length < 9) : (nums9 acc).setIfInBounds acc.length (.int .i64 x) = nums9 (acc ++ [x]) := by
  unfold nums9
  rw [List.setIfInBounds_toArray, List.length_append, List.length_singleton]
  congr 1
  obtain ⟨m, hm⟩ : ∃ m, 9 - acc.length = m + 1 := ⟨8 - acc.length, by omega⟩
  rw [hm, show 9 - (acc.length + 1) = m from by omega, List.replicate_succ, List.map_append, List.map_cons, List.map_append, List.map_append]
  rw [List.set_append_right _ _ (by rw [List.length_map]; exact Nat.le_refl _), List.length_map, Nat.sub_self, List.set_cons_zero, List.append_assoc]
  rfl

theorem ent_fill {Z : World} {q : Nat} (e : En) (h : Blk Z q TEnt #[.int .i64 0, .int .i64 0, .int .i64 0, .int .i64 0, .int .i64 0, .int .i64 0, .int .i64 0, .int .i64 0, .int .i64 0]) : Blk (World.setCell (World.setCell (World.setCell (World.setCell (World.setCell (World.setCell (World.setCell (World.setCell (World.setCell Z ⟨q, 0, none⟩ (.int .i64 e.kind)) ⟨q, 1, none⟩ (.int .i64 e.tick)) ⟨q, 2, none⟩ (.int .i64 e.tenant)) ⟨q, 3, none⟩ (.int .i64 e.cell)) ⟨q, 4, none⟩ (.int .i64 e.other)) ⟨q, 5, none⟩ (.int .i64 e.epoch)) ⟨q, 6, none⟩ (.int .i64 e.from_)) ⟨q, 7, none⟩ (.int .i64 e.until_)) ⟨q, 8, none⟩ (.int .i64 e.n)) q TEnt #[.int .i64 e.kind, .int .i64 e.tick, .int .i64 e.tenant, .int .i64 e.cell, .int .i64 e.other, .int .i64 e.epoch, .int .i64 e.from_, .int .i64 e.until_, .int .i64 e.n] := by
  refine Blk.conv (Blk.set_ (Blk.set_ (Blk.set_ (Blk.set_ (Blk.set_ (Blk.set_ (Blk.set_ (Blk.set_ (Blk.set_ h 0 (.int .i64 e.kind)) 1 (.int .i64 e.tick)) 2 (.int .i64 e.tenant)) 3 (.int .i64 e.cell)) 4 (.int .i64 e.other)) 5 (.int .i64 e.epoch)) 6 (.int .i64 e.from_)) 7 (.int .i64 e.until_)) 8 (.int .i64 e.n)) ?_
  simp only [List.setIfInBounds_toArray, List.set_cons_zero, List.set_cons_succ]
theorem ent_fill_fr {w Z : World} {q : Nat} (e : En) (h : Fr No w Z) (hq : w.heap.size ≤ q) : Fr No w (World.setCell (World.setCell (World.setCell (World.setCell (World.setCell (World.setCell (World.setCell (World.setCell (World.setCell Z ⟨q, 0, none⟩ (.int .i64 e.kind)) ⟨q, 1, none⟩ (.int .i64 e.tick)) ⟨q, 2, none⟩ (.int .i64 e.tenant)) ⟨q, 3, none⟩ (.int .i64 e.cell)) ⟨q, 4, none⟩ (.int .i64 e.other)) ⟨q, 5, none⟩ (.int .i64 e.epoch)) ⟨q, 6, none⟩ (.int .i64 e.from_)) ⟨q, 7, none⟩ (.int .i64 e.until_)) ⟨q, 8, none⟩ (.int .i64 e.n)) := (Fr.setCell (Fr.setCell (Fr.setCell (Fr.setCell (Fr.setCell (Fr.setCell (Fr.setCell (Fr.setCell (Fr.setCell h (p := ⟨q, 0, none⟩) (.inr hq) (.int .i64 e.kind)) (p := ⟨q, 1, none⟩) (.inr hq) (.int .i64 e.tick)) (p := ⟨q, 2, none⟩) (.inr hq) (.int .i64 e.tenant)) (p := ⟨q, 3, none⟩) (.inr hq) (.int .i64 e.cell)) (p := ⟨q, 4, none⟩) (.inr hq) (.int .i64 e.other)) (p := ⟨q, 5, none⟩) (.inr hq) (.int .i64 e.epoch)) (p := ⟨q, 6, none⟩) (.inr hq) (.int .i64 e.from_)) (p := ⟨q, 7, none⟩) (.inr hq) (.int .i64 e.until_)) (p := ⟨q, 8, none⟩) (.inr hq) (.int .i64 e.n))
theorem list9 (l : List Int) (h : l.length = 9) : ∃ a0 a1 a2 a3 a4 a5 a6 a7 a8, l = [a0, a1, a2, a3, a4, a5, a6, a7, a8] := by
  match l, h with
  | [a0, a1, a2, a3, a4, a5, a6, a7, a8], _ => exact ⟨a0, a1, a2, a3, a4, a5, a6, a7, a8, rfl⟩

/-- What Read leaves. -/
def RdTo (w : World) (t : RdT) (r : Ending) (w' : World) : Prop := r = .returned (.tuple #[t.e.v, .int .i64 (t.k : Int), .int .i64 t.x]) ∧ Fr No w w'

theorem read_results (e : En) (g : Nat) (x y : Value) (ts : Array Value) (W : World) (hb : Blk W g TEnt #[.int .i64 e.kind, .int .i64 e.tick, .int .i64 e.tenant, .int .i64 e.cell, .int .i64 e.other, .int .i64 e.epoch, .int .i64 e.from_, .int .i64 e.until_, .int .i64 e.n]) (h2 : ts[2]?.getD undef = .pointer (some ⟨g, 0, none⟩)) (h3 : ts[3]?.getD undef = x) (h4 : ts[4]?.getD undef = y) :
    (results Tryd.f18 ts).run Tryd.prog W = .ok (.tuple #[e.v, x, y]) W := by
  obtain ⟨c0, c1, c2, c3, c4, c5, c6, c7, c8⟩ := ent_cells hb
  clear hb
  simp [results, Tryd.results18, go_sem, h2, h3, h4, En.v, c0, c1, c2, c3, c4, c5, c6, c7, c8]

theorem rread_results (e : En) (g : Nat) (x y : Value) (ts : Array Value) (W : World) (hb : Blk W g TEnt #[.int .i64 e.kind, .int .i64 e.tick, .int .i64 e.tenant, .int .i64 e.cell, .int .i64 e.other, .int .i64 e.epoch, .int .i64 e.from_, .int .i64 e.until_, .int .i64 e.n]) (h2 : ts[2]?.getD undef = .pointer (some ⟨g, 0, none⟩)) (h3 : ts[3]?.getD undef = x) (h4 : ts[4]?.getD undef = y) :
    (results Tryd.f19 ts).run Tryd.prog W = .ok (.tuple #[e.v, x, y]) W := by
  obtain ⟨c0, c1, c2, c3, c4, c5, c6, c7, c8⟩ := ent_cells hb
  clear hb
  simp [results, Tryd.results19, go_sem, h2, h3, h4, En.v, c0, c1, c2, c3, c4, c5, c6, c7, c8]

set_option maxRecDepth 100000 in
set_option maxHeartbeats 4000000 in
theorem read_any (A : Option Addr) (n c : Nat) (l : List UInt8) (w : World) (B : Nat) (hA : A = none → n = 0) (hl : l.length = n) (hm : n ≤ maxLen) (hnc : n ≤ c) (hr : Rd w B A (l.map bv)) (hB : B ≤ w.heap.size) :
    Calls Tryd.prog 18 #[.slice A n c] w (RdTo w (readE l)) := by
  obtain ⟨u0, hu0, gz0, gz1, gz2⟩ := info_parts bytes_info
  obtain ⟨T, hT⟩ : ∃ T, T = intsG 9 l 0 [] := ⟨_, rfl⟩
  unfold readE
  rw [← hT]
  have hM := hm
  unfold maxLen at hm
  have HA := Lib.hid hA
  have HL := Lib.hid hl
  have HR := Lib.hid hr
  have HT := Lib.hid hT
  clear hA hl hr hT
  go_enter Tryd.func18, Tryd.ntmps18
  go_wp2_with fail
  obtain ⟨W, hW⟩ : ∃ W, W = (w.alloc (.cells #[.int .i64 0, .int .i64 0, .int .i64 0, .int .i64 0, .int .i64 0, .int .i64 0, .int .i64 0, .int .i64 0, .int .i64 0] TEnt)).alloc (.cells #[.int .i64 0, .int .i64 0, .int .i64 0, .int .i64 0, .int .i64 0, .int .i64 0, .int .i64 0, .int .i64 0, .int .i64 0] T9) := ⟨_, rfl⟩
  rw [← hW]
  have b2 : Blk W w.heap.size TEnt #[.int .i64 0, .int .i64 0, .int .i64 0, .int .i64 0, .int .i64 0, .int .i64 0, .int .i64 0, .int .i64 0, .int .i64 0] := by rw [hW]; exact (Blk.new _ _ _).allocA _
  have b5 : Blk W (w.heap.size + 1) T9 (nums9 []) := by rw [hW]; exact Blk.new' _ _ _ _ (by simp)
  have hF : Fr No w W := by rw [hW]; exact (fr_alloc w _).alloc _
  obtain ⟨g2, hg2⟩ : ∃ g, g = w.heap.size := ⟨_, rfl⟩
  obtain ⟨g5, hg5⟩ : ∃ g, g = w.heap.size + 1 := ⟨_, rfl⟩
  rw [← hg2] at b2
  rw [← hg5] at b5
  rw [← hg5, ← hg2]
  have n2 : w.heap.size ≤ g2 := by omega
  have n5 : w.heap.size ≤ g5 := by omega
  have n25 : g2 ≠ g5 := by omega
  have n52 : g5 ≠ g2 := by omega
  clear hW hg2 hg5
  have B2 := Lib.hid b2
  have B5 := Lib.hid b5
  have HF := Lib.hid hF
  clear b2 b5 hF
  go_loopw [6, 12] (fun p i wr => ∃ (k pp : Nat) (acc : List Int), k ≤ 9 ∧ i = .int .i64 k ∧ p = .int .i64 pp ∧ pp ≤ n ∧ acc.length = k ∧ Blk wr g2 TEnt #[.int .i64 0, .int .i64 0, .int .i64 0, .int .i64 0, .int .i64 0, .int .i64 0, .int .i64 0, .int .i64 0, .int .i64 0] ∧ Blk wr g5 T9 (nums9 acc) ∧ Fr No w wr ∧ T = intsG (9 - k) l pp acc) (fun _ i _ => 9 - (intOf i).toNat)
  case atStart => exact ⟨0, 0, [], Nat.zero_le _, rfl, rfl, Nat.zero_le _, rfl, B2.out, B5.out, HF.out, HT.out⟩
  case round =>
    obtain ⟨k, pp, acc, hk, rfl, rfl, hpp, hacc, hb2, hb5, hf, hg⟩ := hrel
    clear HT B2 B5 HF
    by_cases hlt : k < 9
    · obtain ⟨A2, hs2, hn2, hr2⟩ := run_from (P := Tryd.prog) 40 5 Tryd.underlying40 u0 hu0 gz1 A n c pp hpp HA.out
      have hr3 := hr2 wr B (l.map bv) (by rw [List.length_map, HL.out]; exact hnc) (HR.out.frNo hf hB)
      rw [← List.map_drop] at hr3
      have hC2 := take_any A2 (n - pp) (c - pp) (l.drop pp) wr B (by rw [List.length_drop, HL.out]) (by unfold maxLen; omega) hr3
      have hk2 := takN_k (l.drop pp)
      rw [List.length_drop, HL.out] at hk2
      rw [show 9 - k = (9 - k - 1) + 1 from by omega, intsG] at hg
      generalize takN (l.drop pp) = t at *
      obtain ⟨tn, tk2, te⟩ := t
      simp only at hk2 hg
      clear hr2 hr3 hn2
      have HC2 := Lib.hid hC2
      clear hC2
      by_cases h5 : te = 0
      · rw [if_pos h5] at hg
        have h6 := hk2 h5
        subst h5
        have ck : wr.cell? ⟨g5, k, none⟩ = some (.int .i64 0) := by rw [hb5.cell]; exact nums9_get acc k hlt hacc
        have fk := hb5.frozen k
        clear hk2
        have HG := Lib.hid hg
        have HB2 := Lib.hid hb2
        have HB5 := Lib.hid hb5
        have HF := Lib.hid hf
        have HACC := Lib.hid hacc
        clear hg hb2 hb5 hf hacc
        go_wp2_with fail
        refine HC2.out.mono ?_
        rintro e w2 ⟨rfl, rfl⟩
        go_wp2_with fail
        go_roundw
        case rel =>
          have e9 := nums9_set acc tn (by rw [HACC.out]; exact hlt)
          rw [HACC.out] at e9
          exact ⟨k + 1, pp + tk2, acc ++ [tn], by omega, by go_num, by go_num, by omega, by simp [HACC.out], HB2.out.setFar (p := ⟨g5, k, none⟩) n25 _, (HB5.out.set_ k _).conv e9, HF.out.setCell (p := ⟨g5, k, none⟩) (.inr n5) _, by rw [HG.out]; congr 1⟩
        case measure => simp [intOf]; omega
      · rw [if_neg h5] at hg
        subst hg
        have b1 : (te == 0) = false := by simp [h5]
        have b1' : (te != 0) = true := by simp [h5]
        have fin : finE ⟨[], 0, te⟩ = ⟨enZero, 0, te⟩ := by unfold finE; rw [if_neg h5]
        rw [fin]
        obtain ⟨c0, c1, c2, c3, c4, c5, c6, c7, c8⟩ := ent_cells hb2
        have f0 := hb2.frozen 0
        have f1 := hb2.frozen 1
        have f2 := hb2.frozen 2
        have f3 := hb2.frozen 3
        have f4 := hb2.frozen 4
        have f5 := hb2.frozen 5
        have f6 := hb2.frozen 6
        have f7 := hb2.frozen 7
        have f8 := hb2.frozen 8
        clear h5 hk2 fin
        have HF := Lib.hid hf
        have HB2 := Lib.hid hb2
        have HB5 := Lib.hid hb5
        clear hf hb2 hb5
        go_wp2_with fail
        refine HC2.out.mono ?_
        rintro e w2 ⟨rfl, rfl⟩
        go_wp2_with fail
        refine bodyPost_ret (read_results enZero g2 (.int .i64 0) (.int .i64 te) _ _ (ent_fill enZero HB2.out) rfl rfl rfl) rfl ⟨rfl, ?_⟩
        exact ent_fill_fr enZero HF.out n2
    · obtain rfl : k = 9 := by omega
      rw [Nat.sub_self, intsG] at hg
      subst hg
      obtain ⟨a0, a1, a2, a3, a4, a5, a6, a7, a8, rfl⟩ := list9 acc hacc
      obtain ⟨s, hs⟩ : ∃ s, s = shapeB ⟨a0, a1, a2, a3, a4, a5, a6, a7, a8⟩ := ⟨_, rfl⟩
      have hfin : finE ⟨[a0, a1, a2, a3, a4, a5, a6, a7, a8], pp, 0⟩ = if s then ⟨⟨a0, a1, a2, a3, a4, a5, a6, a7, a8⟩, pp, 0⟩ else ⟨enZero, 0, 18⟩ := by rw [hs]; rfl
      have hsh := fun V => shape_any ⟨a0, a1, a2, a3, a4, a5, a6, a7, a8⟩ V
      rw [← hs] at hsh
      unfold En.v at hsh
      clear hs hacc
      have d0 : wr.cell? ⟨g5, 0, none⟩ = some (.int .i64 a0) := hb5.cell 0
      have d1 : wr.cell? ⟨g5, 1, none⟩ = some (.int .i64 a1) := hb5.cell 1
      have d2 : wr.cell? ⟨g5, 2, none⟩ = some (.int .i64 a2) := hb5.cell 2
      have d3 : wr.cell? ⟨g5, 3, none⟩ = some (.int .i64 a3) := hb5.cell 3
      have d4 : wr.cell? ⟨g5, 4, none⟩ = some (.int .i64 a4) := hb5.cell 4
      have d5 : wr.cell? ⟨g5, 5, none⟩ = some (.int .i64 a5) := hb5.cell 5
      have d6 : wr.cell? ⟨g5, 6, none⟩ = some (.int .i64 a6) := hb5.cell 6
      have d7 : wr.cell? ⟨g5, 7, none⟩ = some (.int .i64 a7) := hb5.cell 7
      have d8 : wr.cell? ⟨g5, 8, none⟩ = some (.int .i64 a8) := hb5.cell 8
      have HFIN := Lib.hid hfin
      have HSH := Lib.hid hsh
      have HB2 := Lib.hid hb2
      have HB5 := Lib.hid hb5
      have HF := Lib.hid hf
      clear hfin hsh hb2 hb5 hf
      go_wp2_with fail
      refine (HSH.out _).mono ?_
      rintro e w5 ⟨rfl, f5⟩
      have f6 : Fr No w w5 := (HF.out.alloc (.cells #[.int .i64 a0, .int .i64 a1, .int .i64 a2, .int .i64 a3, .int .i64 a4, .int .i64 a5, .int .i64 a6, .int .i64 a7, .int .i64 a8] TEnt)).transNo f5
      have g2b : Blk w5 g2 TEnt #[.int .i64 0, .int .i64 0, .int .i64 0, .int .i64 0, .int .i64 0, .int .i64 0, .int .i64 0, .int .i64 0, .int .i64 0] := (HB2.out.allocA _).fr f5 (fun h => h)
      have g11 : Blk w5 wr.heap.size TEnt #[.int .i64 a0, .int .i64 a1, .int .i64 a2, .int .i64 a3, .int .i64 a4, .int .i64 a5, .int .i64 a6, .int .i64 a7, .int .i64 a8] := (Blk.new wr TEnt _).fr f5 (fun h => h)
      have hn11 : wr.heap.size ≠ g2 := fun h => by have := HB2.out.lt; omega
      obtain ⟨c0, c1, c2, c3, c4, c5, c6, c7, c8⟩ := ent_cells g2b
      obtain ⟨e0, e1, e2, e3, e4, e5, e6, e7, e8⟩ := ent_cells g11
      have r0 := g2b.frozen 0
      have r1 := g2b.frozen 1
      have r2 := g2b.frozen 2
      have r3 := g2b.frozen 3
      have r4 := g2b.frozen 4
      have r5 := g2b.frozen 5
      have r6 := g2b.frozen 6
      have r7 := g2b.frozen 7
      have r8 := g2b.frozen 8
      clear f5 HB2 HB5 HF HSH d0 d1 d2 d3 d4 d5 d6 d7 d8
      have F6 := Lib.hid f6
      have G2B := Lib.hid g2b
      have G11 := Lib.hid g11
      clear f6 g2b g11
      cases s
      · go_wp2_with fail
        rw [HFIN.out]
        refine bodyPost_ret (read_results enZero g2 (.int .i64 0) (.int .i64 18) _ _ (ent_fill enZero G2B.out) rfl rfl rfl) rfl ⟨rfl, ?_⟩
        exact ent_fill_fr enZero F6.out n2
      · go_wp2_with fail
        rw [HFIN.out]
        refine bodyPost_ret (read_results ⟨a0, a1, a2, a3, a4, a5, a6, a7, a8⟩ g2 (.int .i64 (pp : Int)) (.int .i64 0) _ _ (ent_fill ⟨a0, a1, a2, a3, a4, a5, a6, a7, a8⟩ G2B.out) rfl rfl rfl) rfl ⟨rfl, ?_⟩
        exact ent_fill_fr ⟨a0, a1, a2, a3, a4, a5, a6, a7, a8⟩ F6.out n2
set_option maxRecDepth 100000 in
set_option maxHeartbeats 4000000 in
theorem rread_any (A : Option Addr) (n c : Nat) (l : List UInt8) (w : World) (B : Nat) (hA : A = none → n = 0) (hl : l.length = n) (hm : n ≤ maxLen) (hnc : n ≤ c) (hr : Rd w B A (l.map bv)) (hB : B ≤ w.heap.size) :
    Calls Tryd.prog 19 #[.slice A n c] w (RdTo w (readE l)) := by
  obtain ⟨u0, hu0, gz0, gz1, gz2⟩ := info_parts bytes_info
  obtain ⟨T, hT⟩ : ∃ T, T = intsG 9 l 0 [] := ⟨_, rfl⟩
  unfold readE
  rw [← hT]
  have hM := hm
  unfold maxLen at hm
  have HA := Lib.hid hA
  have HL := Lib.hid hl
  have HR := Lib.hid hr
  have HT := Lib.hid hT
  clear hA hl hr hT
  go_enter Tryd.func19, Tryd.ntmps19
  go_wp2_with fail
  obtain ⟨W, hW⟩ : ∃ W, W = (w.alloc (.cells #[.int .i64 0, .int .i64 0, .int .i64 0, .int .i64 0, .int .i64 0, .int .i64 0, .int .i64 0, .int .i64 0, .int .i64 0] TEnt)).alloc (.cells #[.int .i64 0, .int .i64 0, .int .i64 0, .int .i64 0, .int .i64 0, .int .i64 0, .int .i64 0, .int .i64 0, .int .i64 0] T9) := ⟨_, rfl⟩
  rw [← hW]
  have b2 : Blk W w.heap.size TEnt #[.int .i64 0, .int .i64 0, .int .i64 0, .int .i64 0, .int .i64 0, .int .i64 0, .int .i64 0, .int .i64 0, .int .i64 0] := by rw [hW]; exact (Blk.new _ _ _).allocA _
  have b5 : Blk W (w.heap.size + 1) T9 (nums9 []) := by rw [hW]; exact Blk.new' _ _ _ _ (by simp)
  have hF : Fr No w W := by rw [hW]; exact (fr_alloc w _).alloc _
  obtain ⟨g2, hg2⟩ : ∃ g, g = w.heap.size := ⟨_, rfl⟩
  obtain ⟨g5, hg5⟩ : ∃ g, g = w.heap.size + 1 := ⟨_, rfl⟩
  rw [← hg2] at b2
  rw [← hg5] at b5
  rw [← hg5, ← hg2]
  have n2 : w.heap.size ≤ g2 := by omega
  have n5 : w.heap.size ≤ g5 := by omega
  have n25 : g2 ≠ g5 := by omega
  have n52 : g5 ≠ g2 := by omega
  clear hW hg2 hg5
  have B2 := Lib.hid b2
  have B5 := Lib.hid b5
  have HF := Lib.hid hF
  clear b2 b5 hF
  go_loopw [6, 7] (fun p i wr => ∃ (k pp : Nat) (acc : List Int), k ≤ 9 ∧ i = .int .i64 k ∧ p = .int .i64 pp ∧ pp ≤ n ∧ acc.length = k ∧ Blk wr g2 TEnt #[.int .i64 0, .int .i64 0, .int .i64 0, .int .i64 0, .int .i64 0, .int .i64 0, .int .i64 0, .int .i64 0, .int .i64 0] ∧ Blk wr g5 T9 (nums9 acc) ∧ Fr No w wr ∧ T = intsG (9 - k) l pp acc) (fun _ i _ => 9 - (intOf i).toNat)
  case atStart => exact ⟨0, 0, [], Nat.zero_le _, rfl, rfl, Nat.zero_le _, rfl, B2.out, B5.out, HF.out, HT.out⟩
  case round =>
    obtain ⟨k, pp, acc, hk, rfl, rfl, hpp, hacc, hb2, hb5, hf, hg⟩ := hrel
    clear HT B2 B5 HF
    by_cases hlt : k < 9
    · obtain ⟨A2, hs2, hn2, hr2⟩ := run_from (P := Tryd.prog) 40 5 Tryd.underlying40 u0 hu0 gz1 A n c pp hpp HA.out
      have hr3 := hr2 wr B (l.map bv) (by rw [List.length_map, HL.out]; exact hnc) (HR.out.frNo hf hB)
      rw [← List.map_drop] at hr3
      have hC2 := rtake_any A2 (n - pp) (c - pp) (l.drop pp) wr B (by rw [List.length_drop, HL.out]) (by unfold maxLen; omega) hr3
      have hk2 := takN_k (l.drop pp)
      rw [List.length_drop, HL.out] at hk2
      rw [show 9 - k = (9 - k - 1) + 1 from by omega, intsG] at hg
      generalize takN (l.drop pp) = t at *
      obtain ⟨tn, tk2, te⟩ := t
      simp only at hk2 hg
      clear hr2 hr3 hn2
      have HC2 := Lib.hid hC2
      clear hC2
      by_cases h5 : te = 0
      · rw [if_pos h5] at hg
        have h6 := hk2 h5
        subst h5
        have ck : wr.cell? ⟨g5, k, none⟩ = some (.int .i64 0) := by rw [hb5.cell]; exact nums9_get acc k hlt hacc
        have fk := hb5.frozen k
        clear hk2
        have HG := Lib.hid hg
        have HB2 := Lib.hid hb2
        have HB5 := Lib.hid hb5
        have HF := Lib.hid hf
        have HACC := Lib.hid hacc
        clear hg hb2 hb5 hf hacc
        go_wp2_with fail
        refine HC2.out.mono ?_
        rintro e w2 ⟨rfl, rfl⟩
        go_wp2_with fail
        go_roundw
        case rel =>
          have e9 := nums9_set acc tn (by rw [HACC.out]; exact hlt)
          rw [HACC.out] at e9
          exact ⟨k + 1, pp + tk2, acc ++ [tn], by omega, by go_num, by go_num, by omega, by simp [HACC.out], HB2.out.setFar (p := ⟨g5, k, none⟩) n25 _, (HB5.out.set_ k _).conv e9, HF.out.setCell (p := ⟨g5, k, none⟩) (.inr n5) _, by rw [HG.out]; congr 1⟩
        case measure => simp [intOf]; omega
      · rw [if_neg h5] at hg
        subst hg
        have b1 : (te == 0) = false := by simp [h5]
        have b1' : (te != 0) = true := by simp [h5]
        have fin : finE ⟨[], 0, te⟩ = ⟨enZero, 0, te⟩ := by unfold finE; rw [if_neg h5]
        rw [fin]
        obtain ⟨c0, c1, c2, c3, c4, c5, c6, c7, c8⟩ := ent_cells hb2
        have f0 := hb2.frozen 0
        have f1 := hb2.frozen 1
        have f2 := hb2.frozen 2
        have f3 := hb2.frozen 3
        have f4 := hb2.frozen 4
        have f5 := hb2.frozen 5
        have f6 := hb2.frozen 6
        have f7 := hb2.frozen 7
        have f8 := hb2.frozen 8
        clear h5 hk2 fin
        have HF := Lib.hid hf
        have HB2 := Lib.hid hb2
        have HB5 := Lib.hid hb5
        clear hf hb2 hb5
        go_wp2_with fail
        refine HC2.out.mono ?_
        rintro e w2 ⟨rfl, rfl⟩
        go_wp2_with fail
        refine bodyPost_ret (rread_results enZero g2 (.int .i64 0) (.int .i64 te) _ _ (ent_fill enZero HB2.out) rfl rfl rfl) rfl ⟨rfl, ?_⟩
        exact ent_fill_fr enZero HF.out n2
    · obtain rfl : k = 9 := by omega
      rw [Nat.sub_self, intsG] at hg
      subst hg
      obtain ⟨a0, a1, a2, a3, a4, a5, a6, a7, a8, rfl⟩ := list9 acc hacc
      obtain ⟨s, hs⟩ : ∃ s, s = shapeB ⟨a0, a1, a2, a3, a4, a5, a6, a7, a8⟩ := ⟨_, rfl⟩
      have hfin : finE ⟨[a0, a1, a2, a3, a4, a5, a6, a7, a8], pp, 0⟩ = if s then ⟨⟨a0, a1, a2, a3, a4, a5, a6, a7, a8⟩, pp, 0⟩ else ⟨enZero, 0, 18⟩ := by rw [hs]; rfl
      have hsh := fun V => rShape_any ⟨a0, a1, a2, a3, a4, a5, a6, a7, a8⟩ V
      rw [← hs] at hsh
      unfold En.v at hsh
      clear hs hacc
      have d0 : wr.cell? ⟨g5, 0, none⟩ = some (.int .i64 a0) := hb5.cell 0
      have d1 : wr.cell? ⟨g5, 1, none⟩ = some (.int .i64 a1) := hb5.cell 1
      have d2 : wr.cell? ⟨g5, 2, none⟩ = some (.int .i64 a2) := hb5.cell 2
      have d3 : wr.cell? ⟨g5, 3, none⟩ = some (.int .i64 a3) := hb5.cell 3
      have d4 : wr.cell? ⟨g5, 4, none⟩ = some (.int .i64 a4) := hb5.cell 4
      have d5 : wr.cell? ⟨g5, 5, none⟩ = some (.int .i64 a5) := hb5.cell 5
      have d6 : wr.cell? ⟨g5, 6, none⟩ = some (.int .i64 a6) := hb5.cell 6
      have d7 : wr.cell? ⟨g5, 7, none⟩ = some (.int .i64 a7) := hb5.cell 7
      have d8 : wr.cell? ⟨g5, 8, none⟩ = some (.int .i64 a8) := hb5.cell 8
      have HFIN := Lib.hid hfin
      have HSH := Lib.hid hsh
      have HB2 := Lib.hid hb2
      have HB5 := Lib.hid hb5
      have HF := Lib.hid hf
      clear hfin hsh hb2 hb5 hf
      go_wp2_with fail
      refine (HSH.out _).mono ?_
      rintro e w5 ⟨rfl, f5⟩
      have f6 : Fr No w w5 := (HF.out.alloc (.cells #[.int .i64 a0, .int .i64 a1, .int .i64 a2, .int .i64 a3, .int .i64 a4, .int .i64 a5, .int .i64 a6, .int .i64 a7, .int .i64 a8] TEnt)).transNo f5
      have g2b : Blk w5 g2 TEnt #[.int .i64 0, .int .i64 0, .int .i64 0, .int .i64 0, .int .i64 0, .int .i64 0, .int .i64 0, .int .i64 0, .int .i64 0] := (HB2.out.allocA _).fr f5 (fun h => h)
      have g11 : Blk w5 wr.heap.size TEnt #[.int .i64 a0, .int .i64 a1, .int .i64 a2, .int .i64 a3, .int .i64 a4, .int .i64 a5, .int .i64 a6, .int .i64 a7, .int .i64 a8] := (Blk.new wr TEnt _).fr f5 (fun h => h)
      have hn11 : wr.heap.size ≠ g2 := fun h => by have := HB2.out.lt; omega
      obtain ⟨c0, c1, c2, c3, c4, c5, c6, c7, c8⟩ := ent_cells g2b
      obtain ⟨e0, e1, e2, e3, e4, e5, e6, e7, e8⟩ := ent_cells g11
      have r0 := g2b.frozen 0
      have r1 := g2b.frozen 1
      have r2 := g2b.frozen 2
      have r3 := g2b.frozen 3
      have r4 := g2b.frozen 4
      have r5 := g2b.frozen 5
      have r6 := g2b.frozen 6
      have r7 := g2b.frozen 7
      have r8 := g2b.frozen 8
      clear f5 HB2 HB5 HF HSH d0 d1 d2 d3 d4 d5 d6 d7 d8
      have F6 := Lib.hid f6
      have G2B := Lib.hid g2b
      have G11 := Lib.hid g11
      clear f6 g2b g11
      cases s
      · go_wp2_with fail
        rw [HFIN.out]
        refine bodyPost_ret (rread_results enZero g2 (.int .i64 0) (.int .i64 18) _ _ (ent_fill enZero G2B.out) rfl rfl rfl) rfl ⟨rfl, ?_⟩
        exact ent_fill_fr enZero F6.out n2
      · go_wp2_with fail
        rw [HFIN.out]
        refine bodyPost_ret (rread_results ⟨a0, a1, a2, a3, a4, a5, a6, a7, a8⟩ g2 (.int .i64 (pp : Int)) (.int .i64 0) _ _ (ent_fill ⟨a0, a1, a2, a3, a4, a5, a6, a7, a8⟩ G2B.out) rfl rfl rfl) rfl ⟨rfl, ?_⟩
        exact ent_fill_fr ⟨a0, a1, a2, a3, a4, a5, a6, a7, a8⟩ F6.out n2
end Go.Proofs.YtanhbebikcoliaaDoor
/- The plain law of reading entries: what was written is read, what is accepted is what would be written. -/
namespace Go.Proofs.YtanhbebikcoliaaDoor
open Go.ChangeShapes Go.WideShapes Go.ChangeAt Go.RowKit
set_option linter.unusedVariables false
theorem intsG_canon (l : List UInt8) : ∀ (f p : Nat) (acc : List Int), p ≤ l.length → (intsG f l p acc).e = 0 →
    ∃ q : List Int, q.length = f ∧ (intsG f l p acc).q = acc ++ q ∧ (intsG f l p acc).k = p + (intsF q).length ∧ p + (intsF q).length ≤ l.length ∧ (l.drop p).take (intsF q).length = intsF q ∧ ∀ n ∈ q, -9223372036854775808 ≤ n ∧ n ≤ 9223372036854775807 := by
  intro f
  induction f with
  | zero => intro p acc hp _; exact ⟨[], rfl, by simp [intsG], by simp [intsG, intsF], by simpa [intsF] using hp, by simp [intsF], fun n hn => by cases hn⟩
  | succ f ih =>
    intro p acc hp he
    rw [intsG] at he ⊢
    by_cases h0 : (takN (l.drop p)).e = 0
    · rw [if_pos h0] at he ⊢
      obtain ⟨n, b1, b2, hn, hk, hle, htk⟩ := takN_ok (l.drop p) h0
      rw [List.length_drop] at hle
      rw [hn, hk] at he ⊢
      obtain ⟨q, q1, q2, q3, q4, q5, q6⟩ := ih (p + (encN (codeN n)).length) (acc ++ [n]) (by omega) he
      have e1 : intsF (n :: q) = encN (codeN n) ++ intsF q := by simp [intsF]
      refine ⟨n :: q, by simp [q1], by rw [q2]; simp, by rw [q3, e1, List.length_append]; omega, by rw [e1, List.length_append]; omega, ?_, ?_⟩
      · rw [e1, List.length_append, List.take_add, htk, List.drop_drop, q5]
      · intro m hm
        rcases List.mem_cons.1 hm with rfl | hm
        · exact ⟨b1, b2⟩
        · exact q6 m hm
    · rw [if_neg h0] at he
      exact absurd he h0
theorem readE_back (e : En) (h : e.ok) (more : List UInt8) : readE (enB e ++ more) = if shapeB e then ⟨e, (enB e).length, 0⟩ else ⟨enZero, 0, 18⟩ := by
  have := intsG_back e.l [] more [] h
  rw [En.l_len, List.nil_append, List.length_nil, List.nil_append, Nat.zero_add] at this
  unfold readE enB
  rw [this]
  unfold finE
  simp only [if_true, En.of_l]
theorem readE_canon (l : List UInt8) (h : (readE l).x = 0) : (readE l).e.ok ∧ 1 ≤ (readE l).k ∧ (readE l).k ≤ l.length ∧ (enB (readE l).e).length = (readE l).k ∧ l.take (readE l).k = enB (readE l).e := by
  unfold readE at *
  obtain ⟨T, hT⟩ : ∃ T, T = intsG 9 l 0 [] := ⟨_, rfl⟩
  have hc := intsG_canon l 9 0 [] (Nat.zero_le _)
  rw [← hT] at h hc ⊢
  unfold finE at *
  by_cases h0 : T.e = 0
  · rw [if_pos h0] at h ⊢
    obtain ⟨q, q1, q2, q3, q4, q5, q6⟩ := hc h0
    rw [List.nil_append] at q2
    rw [Nat.zero_add] at q3 q4
    rw [List.drop_zero] at q5
    by_cases hs : shapeB (En.of T.q) = true
    · rw [if_pos hs]
      simp only
      have hl : (En.of T.q).l = q := by rw [q2]; exact En.l_of q1
      have hB : enB (En.of T.q) = intsF q := by unfold enB; rw [hl]
      have h1 : 1 ≤ (intsF q).length := by
        cases q with
        | nil => cases q1
        | cons n q =>
          have e1 : intsF (n :: q) = encN (codeN n) ++ intsF q := by simp [intsF]
          have := encN_pos (codeN n)
          rw [e1, List.length_append]; omega
      exact ⟨by unfold En.ok; rw [hl]; exact q6, by omega, by omega, by rw [hB, q3], by rw [hB, q3, q5]⟩
    · rw [if_neg hs] at h
      cases h
  · rw [if_neg h0] at h
    exact absurd h h0
end Go.Proofs.YtanhbebikcoliaaDoor
