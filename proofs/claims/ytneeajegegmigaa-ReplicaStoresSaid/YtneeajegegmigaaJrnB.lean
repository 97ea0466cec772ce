/-
  The contract of add: an entry is appended to the log, without the disk.
-/
import Derived.Test.YtneeajegegmigaaJrnA
import Derived.Deep.RegionLaw
import Derived.IntWalk
namespace Go.Proofs.Ytneeajegegmigaa
open Go.ChangeShapes Go.WideShapes Go.ChangeAt Go.RowKit
set_option linter.unusedVariables false

theorem log_info : (Try.prog.info? TLg).map (fun i => (i.zero, i.size, i.bytes)) = some (some (.agg #[.int .i64 0, .int .i64 0, .int .i64 0, .int .i64 0, .int .i64 0, .int .i64 0, .int .i64 0, .int .i64 0, .int .i64 0, .int .i64 0]), 10, 80) := by kernel_rfl
theorem JAt.still {w w' : World} {F : Nat → Prop} {j d : Nat} {xs : List UInt8} {k : Nat} {s : Js} (h : JAt w F j d xs k s) (hf : Fr No w w') : JTo w F j d xs k s w' := ⟨F, h.frNo hf, fun _ hi => .inl hi, hf.mono fun _ hi => hi.elim⟩
/-- An entry was appended, and the journal's slice set. -/
theorem JAt.added {w w1 w2 : World} {F : Nat → Prop} {j d : Nat} {xs : List UInt8} {k : Nat} {s : Js} {v v' : Value} {Fd : Nat → Prop} {x : Lg} (h1 : Blk w j TJ #[.pointer (some ⟨d, 0, none⟩), .int .i64 s.term, .int .i64 s.vote, v]) (h2 : F j) (h3 : OwnN w F TLg 10 v s.log.length (logV s.log)) (h4 : DiskAt w Fd d xs k) (h5 : ∀ i, Fd i → F i) (h6 : ¬ Fd j) (h7 : ∀ g, v.ownBlock = some g → ¬ Fd g) (h8 : ∀ i, F i → i < w.heap.size)
    (hf : Fr No w w1) (ha : AppendedN w1 0 TLg 10 v s.log.length (logV s.log) x.cells 1 v' w2) :
    Blk w2 j TJ #[.pointer (some ⟨d, 0, none⟩), .int .i64 s.term, .int .i64 s.vote, v] ∧ JTo w F j d xs k ⟨s.term, s.vote, s.log ++ [x]⟩ (w2.setCell ⟨j, 3, none⟩ v') := by
  have h3' := h3.frNo hf
  obtain ⟨o1, -⟩ := h3'.appended ha
  have hg : Fr (fun i => v.ownBlock = some i) w1 w2 := (Fr.refl _ _).grown ha.2.1 fun q hq => .inl hq
  have hs := hf.size
  have hb1 := h1.fr hf (fun h => h)
  have hb2 : Blk w2 j TJ #[.pointer (some ⟨d, 0, none⟩), .int .i64 s.term, .int .i64 s.vote, v] := hb1.fr hg (fun h => h3'.ne_blk hb1 (by decide) j h rfl)
  have hd2 : DiskAt w2 Fd d xs k := (h4.frNo hf).fr hg fun i hi h => h7 i h hi
  refine ⟨hb2, ?_⟩
  rw [← logV_snoc] at o1
  have hjt := JAt.setLog (F := fun i => F i ∨ (i = w1.heap.size ∧ i < w2.heap.size)) (s := s) (v' := v') (l := s.log ++ [x]) hb2 (.inl h2) (by rw [List.length_append]; exact o1) hd2 (fun i hi => .inl (h5 i hi)) h6 (fun g hgv h => by
      rcases ha.2.2 with e1 | e1
      · exact h7 g (e1.symm.trans hgv) h
      · rw [e1] at hgv
        injection hgv with hgv
        have := h8 g (h5 g h)
        omega) (fun i hi => by
      rcases hi with hi | hi
      · exact Nat.lt_of_lt_of_le (Nat.lt_of_lt_of_le (h8 i hi) hs) hg.size
      · exact hi.2)
  obtain ⟨F', g1, g2, g3⟩ := hjt
  refine ⟨F', g1, fun i hi => ?_, ?_⟩
  · rcases g2 i hi with (h | h) | h
    · exact .inl h
    · exact .inr (by omega)
    · exact .inr (Nat.le_trans (Nat.le_trans hs hg.size) h)
  · refine (hf.mono (G := F) fun _ hi => hi.elim).trans ((hg.mono (G := fun i => F i ∨ w.heap.size ≤ i) fun i hi => .inl (h3.2 i hi)).trans (g3.mono (G := fun i => F i ∨ w.heap.size ≤ i) fun i hi => ?_) fun i hi => .inl hi) fun i hi => hi
    rcases hi with h | h
    · exact .inl h
    · exact .inr (by omega)

set_option maxRecDepth 100000 in
set_option maxHeartbeats 8000000 in
theorem j_add {w : World} {F : Nat → Prop} {j d : Nat} {xs : List UInt8} {k : Nat} {s : Js} (h : JAt w F j d xs k s) (hlen : s.log.length ≤ 4096) (t : Int) (e : En) :
    Calls Try.prog 54 #[.pointer (some ⟨j, 0, none⟩), .int .i64 t, e.v] w fun r w' => r = .returned (.int .i64 (addX s t e)) ∧ JTo w F j d xs k (addS s t e) w' := by
  obtain ⟨i0, hi0, hz0, hz1, hz2⟩ := info_parts log_info
  have hsh := fun V => shape_any e V
  obtain ⟨X, hX⟩ : ∃ X, X = addX s t e := ⟨_, rfl⟩
  have hS : addS s t e = if X = 0 then ⟨s.term, s.vote, s.log ++ [⟨t, e⟩]⟩ else s := by rw [hX]; rfl
  rw [hS, ← hX]
  unfold addX at hX
  revert hsh hX
  generalize shapeB e = b
  intro hsh hX
  clear hS
  obtain ⟨k0, tick, te, ce, ot, ep, fr, un, n⟩ := e
  unfold En.v at *
  have hstill := fun w' (hf : Fr No w w') => h.still hf
  have hta := fun w' (hf : Fr No w w') => j_termAt (h.frNo hf) ((s.log.length : Int) - 1)
  obtain ⟨A, c, Fd, h1, h2, h3, h4, h5, h6, h7, h8, d0, d1, d2, d3, hn⟩ := h.open_
  have hjl := h1.lt
  have hcap := h3.cap
  have hput := fun w1 v' w2 (hf : Fr No w w1) ha => JAt.added (w2 := w2) (v' := v') (x := ⟨t, ⟨k0, tick, te, ce, ot, ep, fr, un, n⟩⟩) h1 h2 h3 h4 h5 h6 h7 h8 hf ha
  have hown := fun w' (hf : Fr No w w') => (h3.frNo hf).1
  have BB := Lib.hid (Blk.new w TEnt #[.int .i64 k0, .int .i64 tick, .int .i64 te, .int .i64 ce, .int .i64 ot, .int .i64 ep, .int .i64 fr, .int .i64 un, .int .i64 n])
  have FF := Lib.hid (fr_alloc w (.cells #[.int .i64 k0, .int .i64 tick, .int .i64 te, .int .i64 ce, .int .i64 ot, .int .i64 ep, .int .i64 fr, .int .i64 un, .int .i64 n] TEnt))
  obtain ⟨c0, c1, c2, c3, c4, c5, c6, c7, c8⟩ := ent_cells BB.out
  have hwr : IntKind.i64.wrap ((s.log.length : Int) - 1) = (s.log.length : Int) - 1 := IntWalk.i64_in _ (by omega)
  clear h h2 h3 h4 h5 h6 h7 h8 hn
  generalize termAt s.log ((s.log.length : Int) - 1) = lt at *
  have HSH := Lib.hid hsh
  have HSTILL := Lib.hid hstill
  have HTA := Lib.hid hta
  have HPUT := Lib.hid hput
  have HOWN := Lib.hid hown
  have H1 := Lib.hid h1
  clear hsh hstill hta hput hown h1
  by_cases g1 : t < 1
  · rw [if_pos (.inl g1)] at hX
    have t1 : decide (t < 1) = true := by simpa using g1
    subst hX
    go_enter Try.func54, Try.ntmps54
    go_wp2_with fail
    go_ret
    exact ⟨rfl, HSTILL.out _ FF.out⟩
  have t1 : decide (t < 1) = false := by simpa using g1
  by_cases g2 : 1073741824 < t
  · rw [if_pos (.inr (.inl g2))] at hX
    have t2 : decide (1073741824 < t) = true := by simpa using g2
    subst hX
    go_enter Try.func54, Try.ntmps54
    go_wp2_with fail
    go_ret
    exact ⟨rfl, HSTILL.out _ FF.out⟩
  have t2 : decide (1073741824 < t) = false := by simpa using g2
  have HX := Lib.hid hX
  clear hX
  go_enter Try.func54, Try.ntmps54
  go_wp2_with fail
  refine (HSH.out _).mono ?_
  rintro r w5 ⟨rfl, f5⟩
  replace FF := Lib.hid (FF.out.transNo f5)
  replace BB := Lib.hid (BB.out.fr f5 (fun h => h))
  clear f5 c0 c1 c2 c3 c4 c5 c6 c7 c8 d0 d1 d2 d3
  obtain ⟨c0, c1, c2, c3, c4, c5, c6, c7, c8⟩ := ent_cells BB.out
  have hb5 := H1.out.fr FF.out (fun h => h)
  have d1 : w5.cell? ⟨j, 1, none⟩ = some (.int .i64 s.term) := hb5.cell 1
  have d3 : w5.cell? ⟨j, 3, none⟩ = some (.slice A s.log.length c) := hb5.cell 3
  have hjl5 := hb5.lt
  clear hb5
  cases b
  · have hX := HX.out
    rw [if_pos (.inr (.inr rfl))] at hX
    subst hX
    clear HX
    go_wp2_with fail
    go_ret
    exact ⟨rfl, HSTILL.out _ FF.out⟩
  have hX := HX.out
  rw [if_neg (by simp; omega)] at hX
  clear HX
  by_cases g3 : s.term < t
  · rw [if_pos (.inl g3)] at hX
    have t3 : decide (s.term < t) = true := by simpa using g3
    subst hX
    go_wp2_with fail
    go_ret
    exact ⟨rfl, HSTILL.out _ FF.out⟩
  have t3 : decide (s.term < t) = false := by simpa using g3
  have HX := Lib.hid hX
  clear hX
  go_wp2_with fail
  refine (HTA.out _ FF.out).mono ?_
  rintro r w6 ⟨rfl, f6⟩
  replace FF := Lib.hid (FF.out.transNo f6)
  replace BB := Lib.hid (BB.out.fr f6 (fun h => h))
  clear f6 c0 c1 c2 c3 c4 c5 c6 c7 c8 d1 d3 hjl5
  obtain ⟨c0, c1, c2, c3, c4, c5, c6, c7, c8⟩ := ent_cells BB.out
  have hb5 := H1.out.fr FF.out (fun h => h)
  have d3 : w6.cell? ⟨j, 3, none⟩ = some (.slice A s.log.length c) := hb5.cell 3
  have q3 := hb5.frozen 3
  have hjl6 := hb5.lt
  have hel := BB.out.lt
  clear hb5
  have hX := HX.out
  clear HX
  by_cases g4 : t < lt
  · rw [if_pos (.inr g4)] at hX
    have t4 : decide (t < lt) = true := by simpa using g4
    subst hX
    go_wp2_with fail
    go_ret
    exact ⟨rfl, HSTILL.out _ FF.out⟩
  have t4 : decide (t < lt) = false := by simpa using g4
  rw [if_neg (by omega)] at hX
  by_cases g5 : 4096 ≤ s.log.length
  · rw [if_pos g5] at hX
    have t5 : decide ((4096 : Int) ≤ (s.log.length : Int)) = true := by simp; omega
    subst hX
    go_wp2_with fail
    go_ret
    exact ⟨rfl, HSTILL.out _ FF.out⟩
  have t5 : decide ((4096 : Int) ≤ (s.log.length : Int)) = false := by simp; omega
  rw [if_neg g5] at hX
  subst hX
  go_wp2_with fail
  go_region_law (refine step_append_rdN _ (by rfl) (.tmp 46) (.tmp 50) _ (by rfl) 0 TLg i0 _ 10 80 Try.underlying39 hi0 hz0 hz1 hz2 rfl (by decide) (.slice A s.log.length c) s.log.length (logV s.log) (by rfl) (HOWN.out _ ((FF.out.drew).alloc _)) (w6.heap.size + 1) (some ⟨w6.heap.size, 0, none⟩) 1 1 (Lg.cells ⟨t, ⟨k0, tick, te, ce, ot, ep, fr, un, n⟩⟩) (by rfl) (fun h => by cases h) (Rd.new w6.drew _ TLg rfl) rfl (by simp [Lg.cells, Value.oneCell']) (by unfold maxLen; omega) (by omega) (Nat.zero_le _) ?_; intro v1 w1 happ; obtain ⟨A4, c4, rfl, n4⟩ := ownsRow_slice_form happ.1; clear n4; obtain ⟨hbj, hjt⟩ := HPUT.out _ _ w1 ((FF.out.drew).alloc _) happ; have x3 : w1.cell? ⟨j, 3, none⟩ = some (.slice A s.log.length c) := hbj.cell 3; have y3 := hbj.frozen 3; have HJT := Lib.hid hjt; clear happ hbj hjt)

  all_goals
    go_wp2_with fail
    go_ret
    exact ⟨rfl, HJT.out⟩
end Go.Proofs.Ytneeajegegmigaa
