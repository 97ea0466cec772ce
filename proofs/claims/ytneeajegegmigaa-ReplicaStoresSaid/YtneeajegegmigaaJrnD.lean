/-
  The contract of Append of the journal.
-/
import Derived.Test.YtneeajegegmigaaJrnC
namespace Go.Proofs.Ytneeajegegmigaa
open Go.ChangeShapes Go.WideShapes Go.ChangeAt Go.RowKit
set_option linter.unusedVariables false

set_option maxRecDepth 100000 in
set_option maxHeartbeats 4000000 in
theorem j_Append {w : World} {F : Nat → Prop} {j d : Nat} {xs : List UInt8} {k : Nat} {s : Js} (h : JAt w F j d xs k s) (hlen : s.log.length ≤ 4096) (t : Int) (e : En) (he : e.ok) (hsz : xs.length + 200 ≤ 140737488355328) :
    Calls Try.prog 45 #[.pointer (some ⟨j, 0, none⟩), .int .i64 t, e.v] w fun r w' => r = .returned (.int .i64 (addX s t e)) ∧ JTo w F j d (if addX s t e = 0 then xs ++ putN 8 (recE t e) else xs) k (addS s t e) w' := by
  obtain ⟨i0, hi0, hz0, hz1, hz2⟩ := info_parts bytes_info
  have hadd := fun W (hf : Fr No w W) => j_add (h.frNo hf) hlen t e
  have hbd := fun hx => addX_bd (s := s) (t := t) (e := e) hx
  have hlt := h.lt
  have hby := fun V => bytes_any e V he
  have hbl := enB_len e he
  obtain ⟨X, hX⟩ : ∃ X, X = addX s t e := ⟨_, rfl⟩
  obtain ⟨S, hS⟩ : ∃ S, S = addS s t e := ⟨_, rfl⟩
  rw [← hX] at hbd
  simp only [← hX, ← hS] at hadd
  rw [← hX, ← hS]
  clear hX hS h he
  obtain ⟨Y, hY⟩ : ∃ Y, Y = if X = 0 then xs ++ putN 8 (recE t e) else xs := ⟨_, rfl⟩
  rw [← hY]
  unfold recE at hY
  generalize enB e = EB at *
  obtain ⟨k0, tick, te, ce, ot, ep, fr, un, n⟩ := e
  unfold En.v at *
  have BB := Lib.hid (Blk.new w TEnt #[.int .i64 k0, .int .i64 tick, .int .i64 te, .int .i64 ce, .int .i64 ot, .int .i64 ep, .int .i64 fr, .int .i64 un, .int .i64 n])
  have FF := Lib.hid (fr_alloc w (.cells #[.int .i64 k0, .int .i64 tick, .int .i64 te, .int .i64 ce, .int .i64 ot, .int .i64 ep, .int .i64 fr, .int .i64 un, .int .i64 n] TEnt))
  obtain ⟨c0, c1, c2, c3, c4, c5, c6, c7, c8⟩ := ent_cells BB.out
  obtain ⟨W0, hW0⟩ : ∃ W0, W0 = w.alloc (.cells #[.int .i64 k0, .int .i64 tick, .int .i64 te, .int .i64 ce, .int .i64 ot, .int .i64 ep, .int .i64 fr, .int .i64 un, .int .i64 n] TEnt) := ⟨_, rfl⟩
  have hs0 : W0.heap.size = w.heap.size + 1 := by rw [hW0]; simp
  have HADD := Lib.hid hadd
  have HY := Lib.hid hY
  have HBY := Lib.hid hby
  have HLT := Lib.hid hlt
  clear hadd hY hby hlt
  go_enter Try.func45, Try.ntmps45
  go_wp2_with fail
  rw [← hW0] at BB FF ⊢
  refine (HADD.out _ FF.out).mono ?_
  rintro r W ⟨rfl, j1⟩
  clear HADD c0 c1 c2 c3 c4 c5 c6 c7 c8 hW0
  by_cases hx : X = 0
  · subst hx
    have hb := hbd rfl
    obtain ⟨G1, a1, i1, f1⟩ := j1
    obtain ⟨g, hg⟩ : ∃ g, g = w.heap.size := ⟨_, rfl⟩
    rw [← hg] at BB ⊢
    have hg1 : ¬ G1 g := by
      intro hh
      rcases i1 g hh with h | h
      · have := HLT.out g h
        omega
      · omega
    have hg0 : ¬ F g := by
      intro hh
      have := HLT.out g hh
      omega
    have b5 : Blk W g TEnt #[.int .i64 k0, .int .i64 tick, .int .i64 te, .int .i64 ce, .int .i64 ot, .int .i64 ep, .int .i64 fr, .int .i64 un, .int .i64 n] := BB.out.fr f1 hg0
    have hq : ∀ x ∈ [(2 : Int), t], -9223372036854775808 ≤ x ∧ x ≤ 9223372036854775807 := by
      intro x hx
      simp at hx
      omega
    have hrl := intsF_len _ hq
    simp only [List.length_cons, List.length_nil] at hrl
    have hS : ∀ V, Fr G1 W V → V.cell? ⟨g, 0, none⟩ = some (.int .i64 k0) ∧ V.cell? ⟨g, 1, none⟩ = some (.int .i64 tick) ∧ V.cell? ⟨g, 2, none⟩ = some (.int .i64 te) ∧ V.cell? ⟨g, 3, none⟩ = some (.int .i64 ce) ∧ V.cell? ⟨g, 4, none⟩ = some (.int .i64 ot) ∧ V.cell? ⟨g, 5, none⟩ = some (.int .i64 ep) ∧ V.cell? ⟨g, 6, none⟩ = some (.int .i64 fr) ∧ V.cell? ⟨g, 7, none⟩ = some (.int .i64 un) ∧ V.cell? ⟨g, 8, none⟩ = some (.int .i64 n) := fun V hV => ⟨(b5.fr hV hg1).cell 0, (b5.fr hV hg1).cell 1, (b5.fr hV hg1).cell 2, (b5.fr hV hg1).cell 3, (b5.fr hV hg1).cell 4, (b5.fr hV hg1).cell 5, (b5.fr hV hg1).cell 6, (b5.fr hV hg1).cell 7, (b5.fr hV hg1).cell 8⟩
    have hy : Y = xs ++ putN 8 (intsF [2, t] ++ EB) := by rw [HY.out, if_pos rfl]
    have f2 := FF.out
    clear hbd HY BB b5 hg1 hg0 hg FF
    have A1 := Lib.hid a1
    have I1 := Lib.hid i1
    have F1 := Lib.hid f1
    have HQ := Lib.hid hq
    have HS := Lib.hid hS
    have HY := Lib.hid hy
    have F2 := Lib.hid f2
    clear a1 i1 f1 hq hS hy f2
    have HSS := HS
    go_wp2_with fail
    generalize hIN : intsF [2, t] = IN at *
    refine wp_region_held_drew (S := fun V => V.cell? ⟨g, 0, none⟩ = some (.int .i64 k0) ∧ V.cell? ⟨g, 1, none⟩ = some (.int .i64 tick) ∧ V.cell? ⟨g, 2, none⟩ = some (.int .i64 te) ∧ V.cell? ⟨g, 3, none⟩ = some (.int .i64 ce) ∧ V.cell? ⟨g, 4, none⟩ = some (.int .i64 ot) ∧ V.cell? ⟨g, 5, none⟩ = some (.int .i64 ep) ∧ V.cell? ⟨g, 6, none⟩ = some (.int .i64 fr) ∧ V.cell? ⟨g, 7, none⟩ = some (.int .i64 un) ∧ V.cell? ⟨g, 8, none⟩ = some (.int .i64 n)) (by kernel_rfl) (HSS.out _ ((Fr.refl G1 W).drew)) (fun hHeld => ?_)
    refine wpAnyH_take (i := 0) (v := ?_) rfl (by kernel_rfl) (by kernel_rfl) (by kernel_rfl) (fun _ _ _ h => h) (Or.inl ⟨by rfl, ?_⟩) (by assumption) ?_
    rotate_left
    · (intro w hSw; (try dsimp only at hSw); go_simp) <;> with_reducible rfl
    simp only [Act.put, List.setIfInBounds_toArray, List.set_cons_zero, List.set_cons_succ, List.getElem_toArray, List.getElem_cons_zero]
    refine wpAnyH_take (i := 1) (v := ?_) rfl (by kernel_rfl) (by kernel_rfl) (by kernel_rfl) (fun _ _ _ h => h) (Or.inl ⟨by rfl, ?_⟩) (by assumption) ?_
    rotate_left
    · (intro w hSw; (try dsimp only at hSw); go_simp) <;> with_reducible rfl
    simp only [Act.put, List.setIfInBounds_toArray, List.set_cons_zero, List.set_cons_succ, List.getElem_toArray, List.getElem_cons_zero, List.getElem_cons_succ]
    refine wpAnyH_take (i := 4) (v := ?_) rfl (by kernel_rfl) (by kernel_rfl) (by kernel_rfl) (fun _ _ _ h => h) (Or.inl ⟨by rfl, ?_⟩) (by assumption) ?_
    rotate_left
    · (intro w hSw; (try dsimp only at hSw); go_simp) <;> with_reducible rfl
    simp only [Act.put, List.setIfInBounds_toArray, List.set_cons_zero, List.set_cons_succ, List.getElem_toArray, List.getElem_cons_zero, List.getElem_cons_succ]
    refine wpAnyH_ready (rs := [2]) (by kernel_rfl) (by simp) (AllReadyH.cons rfl (fun K hK => ?_) AllReadyH.nil)
    go_simp
    clear hHeld
    refine hK.out _ _ (HSS.out _ (((Fr.refl G1 W).drew).alloc _)) (fun hHeld => ?_)
    clear hK K
    try simp only [Act.put, List.setIfInBounds_toArray, List.set_cons_zero, List.set_cons_succ, List.getElem_toArray, List.getElem_cons_zero, List.getElem_cons_succ]
    refine wpAnyH_ready (rs := [3]) (by kernel_rfl) (by simp) (AllReadyH.cons rfl (fun K hK => ?_) AllReadyH.nil)
    go_simp
    refine (jints_any (some ⟨W.heap.size, 0, none⟩) 2 2 [2, t] _ (W.heap.size + 1) (fun h => by cases h) rfl (Rd.new W.drew [.int .i64 2, .int .i64 t] 3 rfl) (by simp) HQ.out (by omega)).mono ?_
    rintro e w4 ⟨A4, d4, rfl, o4, f4⟩
    rw [hIN] at o4 ⊢
    have q4 := Lib.hid ((((Fr.refl No W).drew).alloc (.cells #[.int .i64 2, .int .i64 t] 3)).transNo f4)
    have O4 := Lib.hid (o4.mono (G := fun i => W.heap.size ≤ i) fun i hi => by simp at hi; omega)
    clear o4 f4
    go_wp2_with fail
    clear hHeld
    refine hK.out _ _ (HSS.out _ (q4.out.mono fun _ h => h.elim)) (fun hHeld => ?_)
    clear hK K
    try simp only [Act.put, List.setIfInBounds_toArray, List.set_cons_zero, List.set_cons_succ, List.getElem_toArray, List.getElem_cons_zero, List.getElem_cons_succ]
    refine wpAnyH_ready (rs := [5]) (by kernel_rfl) (by simp) (AllReadyH.cons rfl (fun K hK => ?_) AllReadyH.nil)
    go_simp
    refine (HBY.out _).mono ?_
    rintro e w5 ⟨A5, d5, rfl, o5, f5⟩
    have q5 := Lib.hid (q4.out.transNo f5)
    have P4 := Lib.hid (O4.out.frNo f5)
    have O5 := Lib.hid o5
    clear o5 f5 q4 O4
    go_wp2_with fail
    clear hHeld
    refine hK.out _ _ (HSS.out _ (q5.out.mono fun _ h => h.elim)) (fun hHeld => ?_)
    clear hK K
    try simp only [Act.put, List.setIfInBounds_toArray, List.set_cons_zero, List.set_cons_succ, List.getElem_toArray, List.getElem_cons_zero, List.getElem_cons_succ]
    refine wpAnyH_ready (rs := [6]) (by kernel_rfl) (by simp) (AllReadyH.cons rfl (fun K hK => ?_) AllReadyH.nil)
    refine step_append_rd _ (by rfl) (.tmp 18) (.tmp 20) _ (by rfl) 0 5 i0 _ 1 Try.underlying85 hi0 hz0 hz1 hz2 rfl (.slice A4 IN.length d4) IN.length (IN.map bv) (by rfl) (P4.out.own (by rw [List.length_map])) w5.heap.size A5 EB.length d5 (EB.map bv) (by rfl) O5.out.len.2 O5.out.rd (by rw [List.length_map]) (bv_one _) (by unfold maxLen; omega) (by omega) (Nat.zero_le _) ?_
    intro v6 w6 happ
    obtain ⟨o6, f6⟩ := P4.out.appended (by rw [List.length_map]) (by rw [List.length_map]) happ
    rw [← List.map_append] at o6
    obtain ⟨A6, d6, rfl, n6⟩ := o6.form
    rw [List.length_map, List.length_append] at o6 ⊢
    have q6 := Lib.hid (q5.out.transNew f6 fun i hi => hi)
    have O6 := Lib.hid o6
    clear happ o6 f6 n6 P4 O5 q5 hHeld
    refine hK.out _ _ (HSS.out _ (q6.out.mono fun _ h => h.elim)) (fun hHeld => ?_)
    clear hK K
    try simp only [Act.put, List.setIfInBounds_toArray, List.set_cons_zero, List.set_cons_succ, List.getElem_toArray, List.getElem_cons_zero, List.getElem_cons_succ]
    refine wpAnyH_ready (rs := [7]) (by kernel_rfl) (by simp) (AllReadyH.cons rfl (fun K hK => ?_) AllReadyH.nil)
    go_simp
    refine (j_write (A1.out.frNo q6.out) A6 (IN.length + EB.length) d6 (IN ++ EB) w6.heap.size O6.out.len.2 O6.out.rd List.length_append (Nat.le_refl _) (by omega) (by omega)).mono ?_
    rintro e w7 ⟨rfl, j7⟩
    have q7 : Hid (Fr G1 W w7) := Lib.hid (let ⟨_, _, _, g⟩ := JTo.after q6.out j7; g)
    have J7 := Lib.hid (JTo.after q6.out j7)
    clear j7
    go_wp2_with fail
    clear hHeld
    refine hK.out _ _ (HSS.out _ q7.out) (fun hHeld => ?_)
    clear hK K
    try simp only [Act.put, List.setIfInBounds_toArray, List.set_cons_zero, List.set_cons_succ, List.getElem_toArray, List.getElem_cons_zero, List.getElem_cons_succ]
    refine wpAnyH_done (by kernel_rfl) ?_ _
    go_wp2_with fail
    go_ret
    refine ⟨rfl, ?_⟩
    rw [HY.out]
    obtain ⟨F', g1, g2, g3⟩ := J7.out
    refine JTo.after F2.out ⟨F', g1, fun i hi => (g2 i hi).elim (fun h => I1.out i h) (fun h => .inr (Nat.le_trans F1.out.size h)), F1.out.trans g3 I1.out⟩
  · have b1 : (X == 0) = false := by simpa using hx
    have b2 : (X != 0) = true := by simpa using hx
    have hy : Y = xs := by rw [HY.out, if_neg hx]
    have j2 := JTo.after FF.out j1
    clear hbd HY j1 FF BB
    have J2 := Lib.hid j2
    have HX := Lib.hid hx
    have HY := Lib.hid hy
    clear j2 hx hy
    go_wp2_with fail
    go_ret
    exact ⟨rfl, by rw [HY.out]; exact J2.out⟩
end Go.Proofs.Ytneeajegegmigaa
