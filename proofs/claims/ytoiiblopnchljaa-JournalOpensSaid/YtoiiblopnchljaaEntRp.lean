/-
  The contract of the reference's 'places' of an entry.
-/
import Derived.Test.YtoiiblopnchljaaEntRs
namespace Go.Proofs.Ytoiiblopnchljaa
open Go.ChangeShapes Go.WideShapes Go.ChangeAt Go.RowKit
set_option linter.unusedVariables false

/-- Which of its places a kind uses. -/
theorem uses_places (k : Int) : (hasI k 116 = true ∧ hasI k 99 = true ∧ hasI k 67 = false ∧ hasI k 111 = true ∧ hasI k 114 = false) ∨ (hasI k 116 = true ∧ hasI k 99 = true ∧ hasI k 67 = false ∧ hasI k 111 = false ∧ hasI k 114 = false) ∨
    (hasI k 116 = true ∧ hasI k 99 = false ∧ hasI k 67 = false ∧ hasI k 111 = false ∧ hasI k 114 = false) ∨ (hasI k 116 = true ∧ hasI k 99 = false ∧ hasI k 67 = true ∧ hasI k 111 = false ∧ hasI k 114 = false) ∨
    (hasI k 116 = false ∧ hasI k 99 = true ∧ hasI k 67 = false ∧ hasI k 111 = false ∧ hasI k 114 = false) ∨ (hasI k 116 = false ∧ hasI k 99 = false ∧ hasI k 67 = false ∧ hasI k 111 = false ∧ hasI k 114 = true) ∨
    (hasI k 116 = false ∧ hasI k 99 = false ∧ hasI k 67 = false ∧ hasI k 111 = false ∧ hasI k 114 = false) := by
  have hcase : k = 1 ∨ k = 2 ∨ k = 3 ∨ k = 4 ∨ k = 5 ∨ k = 6 ∨ k = 7 ∨ k = 8 ∨ k = 9 ∨ k = 10 ∨ k = 11 ∨ k = 12 ∨ k = 13 ∨ k = 14 ∨ k = 15 ∨ k = 16 ∨ (k < 1 ∨ 16 < k) := by omega
  rcases hcase with rfl | rfl | rfl | rfl | rfl | rfl | rfl | rfl | rfl | rfl | rfl | rfl | rfl | rfl | rfl | rfl | hk
  iterate 16 · decide
  have hu : usesN k = [63] := by unfold usesN; repeat (first | rw [if_neg (by omega)] | rfl)
  unfold hasI hasN
  rw [hu]
  decide

set_option maxHeartbeats 4000000 in
theorem places_any (e : En) (nt nc nr : Int) (w : World) (h1 : -4611686018427387904 ≤ nt) (h2 : nt ≤ 4611686018427387904) (h3 : -4611686018427387904 ≤ nc) (h4 : nc ≤ 4611686018427387904) (h5 : -4611686018427387904 ≤ nr) (h6 : nr ≤ 4611686018427387904) :
    Calls Try.prog 75 #[e.v, .int .i64 nt, .int .i64 nc, .int .i64 nr] w fun r w' => r = .returned (.bool (placesB e nt nc nr)) ∧ Fr No w w' := by
  obtain ⟨k, tick, te, ce, ot, ep, fr, un, n⟩ := e
  unfold En.v
  have FF := Lib.hid (fr_alloc w (.cells #[.int .i64 k, .int .i64 tick, .int .i64 te, .int .i64 ce, .int .i64 ot, .int .i64 ep, .int .i64 fr, .int .i64 un, .int .i64 n] TEnt))
  have BB := Lib.hid (Blk.new w TEnt #[.int .i64 k, .int .i64 tick, .int .i64 te, .int .i64 ce, .int .i64 ot, .int .i64 ep, .int .i64 fr, .int .i64 un, .int .i64 n])
  obtain ⟨c0, c1, c2, c3, c4, c5, c6, c7, c8⟩ := ent_cells BB.out
  obtain ⟨q, hq⟩ : ∃ q : Bool, (te != -1) = q := ⟨_, rfl⟩
  obtain ⟨p, hp⟩ : ∃ p : Bool, inB (-1) (nc - 1) ot = p := ⟨_, rfl⟩
  have hw1 : IntKind.i64.wrap (nt - 1) = nt - 1 := IntWalk.i64_in _ (by omega)
  have hw2 : IntKind.i64.wrap (nc - 1) = nc - 1 := IntWalk.i64_in _ (by omega)
  have hw3 : IntKind.i64.wrap (nr - 1) = nr - 1 := IntWalk.i64_in _ (by omega)
  by_cases hm : hasI k 116 = (te != -1)
  · rcases uses_places k with ⟨u1, u2, u3, u4, u5⟩ | ⟨u1, u2, u3, u4, u5⟩ | ⟨u1, u2, u3, u4, u5⟩ | ⟨u1, u2, u3, u4, u5⟩ | ⟨u1, u2, u3, u4, u5⟩ | ⟨u1, u2, u3, u4, u5⟩ | ⟨u1, u2, u3, u4, u5⟩
    all_goals
      rw [u1] at hm
      replace hm := hm.symm
      rw [hm] at hq
      subst hq
    · cases p
      all_goals
        go_enter Try.func75, Try.ntmps75
        go_wp2_with fail
        replace FF := Lib.hid FF.out.drew
        replace BB := Lib.hid (blk_drew BB.out)
        go_region_held3 (fun V => Fr No w V ∧ Blk V w.heap.size TEnt #[.int .i64 k, .int .i64 tick, .int .i64 te, .int .i64 ce, .int .i64 ot, .int .i64 ep, .int .i64 fr, .int .i64 un, .int .i64 n] ∧ V.cell? ⟨w.heap.size, 2, none⟩ = some (.int .i64 te)) (exact ⟨FF.out, BB.out, c2⟩) (first
        | (go_at_call 90; refine (rhasI_any k _ _ (by decide)).mono ?_; rintro e w5 ⟨rfl, f5⟩; replace FF := Lib.hid (FF.out.transNo f5); replace BB := Lib.hid (BB.out.fr f5 (fun h => h)); clear f5 c0 c1 c2 c3 c4 c5 c6 c7 c8; obtain ⟨c0, c1, c2, c3, c4, c5, c6, c7, c8⟩ := ent_cells BB.out)
        | (go_at_call 74; refine (rin_any _ _ _ _).mono ?_; rintro e w5 ⟨rfl, rfl⟩))
        all_goals
          go_wp2_with (first
        | (go_at_call 90; refine (rhasI_any k _ _ (by decide)).mono ?_; rintro e w5 ⟨rfl, f5⟩; replace FF := Lib.hid (FF.out.transNo f5); replace BB := Lib.hid (BB.out.fr f5 (fun h => h)); clear f5 c0 c1 c2 c3 c4 c5 c6 c7 c8; obtain ⟨c0, c1, c2, c3, c4, c5, c6, c7, c8⟩ := ent_cells BB.out)
        | (go_at_call 74; refine (rin_any _ _ _ _).mono ?_; rintro e w5 ⟨rfl, rfl⟩))
        all_goals
          go_ret
          refine ⟨ret_bool ?_, FF.out⟩
          simp only [placesB, hasI_t, hasI_c, hasI_C, hasI_o, hasI_r]
          simp_all
    iterate 3
      · clear hp
        go_enter Try.func75, Try.ntmps75
        go_wp2_with fail
        replace FF := Lib.hid FF.out.drew
        replace BB := Lib.hid (blk_drew BB.out)
        go_region_held3 (fun V => Fr No w V ∧ Blk V w.heap.size TEnt #[.int .i64 k, .int .i64 tick, .int .i64 te, .int .i64 ce, .int .i64 ot, .int .i64 ep, .int .i64 fr, .int .i64 un, .int .i64 n] ∧ V.cell? ⟨w.heap.size, 2, none⟩ = some (.int .i64 te)) (exact ⟨FF.out, BB.out, c2⟩) (first
        | (go_at_call 90; refine (rhasI_any k _ _ (by decide)).mono ?_; rintro e w5 ⟨rfl, f5⟩; replace FF := Lib.hid (FF.out.transNo f5); replace BB := Lib.hid (BB.out.fr f5 (fun h => h)); clear f5 c0 c1 c2 c3 c4 c5 c6 c7 c8; obtain ⟨c0, c1, c2, c3, c4, c5, c6, c7, c8⟩ := ent_cells BB.out)
        | (go_at_call 74; refine (rin_any _ _ _ _).mono ?_; rintro e w5 ⟨rfl, rfl⟩))
        all_goals
          go_wp2_with (first
        | (go_at_call 90; refine (rhasI_any k _ _ (by decide)).mono ?_; rintro e w5 ⟨rfl, f5⟩; replace FF := Lib.hid (FF.out.transNo f5); replace BB := Lib.hid (BB.out.fr f5 (fun h => h)); clear f5 c0 c1 c2 c3 c4 c5 c6 c7 c8; obtain ⟨c0, c1, c2, c3, c4, c5, c6, c7, c8⟩ := ent_cells BB.out)
        | (go_at_call 74; refine (rin_any _ _ _ _).mono ?_; rintro e w5 ⟨rfl, rfl⟩))
        all_goals
          go_ret
          refine ⟨ret_bool ?_, FF.out⟩
          simp only [placesB, hasI_t, hasI_c, hasI_C, hasI_o, hasI_r]
          simp_all
    all_goals
      clear hp
      go_enter Try.func75, Try.ntmps75
      go_wp2_with fail
      replace FF := Lib.hid FF.out.drew
      replace BB := Lib.hid (blk_drew BB.out)
      refine wp_region_held_drew (S := fun V => Fr No w V ∧ Blk V w.heap.size TEnt #[.int .i64 k, .int .i64 tick, .int .i64 te, .int .i64 ce, .int .i64 ot, .int .i64 ep, .int .i64 fr, .int .i64 un, .int .i64 n] ∧ V.cell? ⟨w.heap.size, 2, none⟩ = some (.int .i64 te)) (by kernel_rfl) ⟨FF.out, BB.out, c2⟩ (fun hHeld => ?_)
      refine wpAnyH_take (i := 0) (v := ?_) rfl (by kernel_rfl) (by kernel_rfl) (by kernel_rfl) (fun _ _ _ h => h) (Or.inl ⟨by rfl, ?_⟩) (by assumption) ?_
      rotate_left
      · (intro w hSw; (try dsimp only at hSw); go_simp) <;> with_reducible rfl
      simp only [Act.put, List.setIfInBounds_toArray, List.set_cons_zero, List.set_cons_succ, List.getElem_toArray, List.getElem_cons_zero]
      refine wpAnyH_take (i := 2) (v := ?_) rfl (by kernel_rfl) (by kernel_rfl) (by kernel_rfl) (fun _ _ _ h => h) (Or.inl ⟨by rfl, ?_⟩) (by assumption) ?_
      rotate_left
      · (intro w hSw; (try dsimp only at hSw); go_simp) <;> with_reducible rfl
      simp only [Act.put, List.setIfInBounds_toArray, List.set_cons_zero, List.set_cons_succ, List.getElem_toArray, List.getElem_cons_zero, List.getElem_cons_succ]
      refine wpAnyH_take (i := 3) (v := ?_) rfl (by kernel_rfl) (by kernel_rfl) (by kernel_rfl) (fun _ _ _ h => h) (Or.inl ⟨by rfl, ?_⟩) (by assumption) ?_
      rotate_left
      · (intro w hSw; (try dsimp only at hSw); go_simp) <;> with_reducible rfl
      simp only [Act.put, List.setIfInBounds_toArray, List.set_cons_zero, List.set_cons_succ, List.getElem_toArray, List.getElem_cons_zero, List.getElem_cons_succ]
      refine wpAnyH_take (i := 4) (v := ?_) rfl (by kernel_rfl) (by kernel_rfl) (by kernel_rfl) (fun _ _ _ h => h) (Or.inl ⟨by rfl, ?_⟩) (by assumption) ?_
      rotate_left
      · (intro w hSw; (try dsimp only at hSw); go_simp) <;> with_reducible rfl
      simp only [Act.put, List.setIfInBounds_toArray, List.set_cons_zero, List.set_cons_succ, List.getElem_toArray, List.getElem_cons_zero, List.getElem_cons_succ]
      refine wpAnyH_ready (rs := [1]) (by kernel_rfl) (by simp) (AllReadyH.cons rfl (fun K hK => ?_) AllReadyH.nil)
      go_simp
      refine (rhasI_any k _ _ (by decide)).mono ?_
      rintro e w5 ⟨rfl, f5⟩
      replace FF := Lib.hid (FF.out.transNo f5)
      replace BB := Lib.hid (BB.out.fr f5 (fun h => h))
      clear f5 c0 c1 c2 c3 c4 c5 c6 c7 c8
      obtain ⟨c0, c1, c2, c3, c4, c5, c6, c7, c8⟩ := ent_cells BB.out
      go_wp2_with fail
      refine hK.out _ _ ⟨FF.out, BB.out, c2⟩ (fun hHeld => ?_)
      clear hK K
      try simp only [Act.put, List.setIfInBounds_toArray, List.set_cons_zero, List.set_cons_succ, List.getElem_toArray, List.getElem_cons_zero, List.getElem_cons_succ]
      refine wpAnyH_take (i := 5) (v := ?_) rfl (by kernel_rfl) (by kernel_rfl) (by kernel_rfl) (fun _ _ _ h => h) (Or.inl ⟨by rfl, ?_⟩) (by assumption) ?_
      rotate_left
      · (intro w hSw; (try dsimp only at hSw); go_simp) <;> with_reducible rfl
      simp only [Act.put, List.setIfInBounds_toArray, List.set_cons_zero, List.set_cons_succ, List.getElem_toArray, List.getElem_cons_zero, List.getElem_cons_succ]
      refine wpAnyH_take (i := 6) (v := ?_) rfl (by kernel_rfl) (by kernel_rfl) (by kernel_rfl) (fun _ _ _ h => h) (Or.inl ⟨by rfl, ?_⟩) (by assumption) ?_
      rotate_left
      · (intro w hSw; (try dsimp only at hSw); go_simp) <;> with_reducible rfl
      simp only [Act.put, List.setIfInBounds_toArray, List.set_cons_zero, List.set_cons_succ, List.getElem_toArray, List.getElem_cons_zero, List.getElem_cons_succ]
      refine wpAnyH_take (i := 7) (v := ?_) rfl (by kernel_rfl) (by kernel_rfl) (by kernel_rfl) (fun _ _ _ h => h) (Or.inl ⟨by rfl, ?_⟩) (by assumption) ?_
      rotate_left
      · (intro w hSw; (try dsimp only at hSw); go_simp) <;> with_reducible rfl
      simp only [Act.put, List.setIfInBounds_toArray, List.set_cons_zero, List.set_cons_succ, List.getElem_toArray, List.getElem_cons_zero, List.getElem_cons_succ]
      refine wpAnyH_ready (rs := [8]) (by kernel_rfl) (by simp) (AllReadyH.cons rfl (fun K hK => ?_) AllReadyH.nil)
      go_simp
      refine (rhasI_any k _ _ (by decide)).mono ?_
      rintro e w5 ⟨rfl, f5⟩
      replace FF := Lib.hid (FF.out.transNo f5)
      replace BB := Lib.hid (BB.out.fr f5 (fun h => h))
      clear f5 c0 c1 c2 c3 c4 c5 c6 c7 c8
      obtain ⟨c0, c1, c2, c3, c4, c5, c6, c7, c8⟩ := ent_cells BB.out
      go_wp2_with fail
      refine hK.out _ _ ⟨FF.out, BB.out, c2⟩ (fun hHeld => ?_)
      clear hK K
      try simp only [Act.put, List.setIfInBounds_toArray, List.set_cons_zero, List.set_cons_succ, List.getElem_toArray, List.getElem_cons_zero, List.getElem_cons_succ]
      refine wpAnyH_take (i := 9) (v := ?_) rfl (by kernel_rfl) (by kernel_rfl) (by kernel_rfl) (fun _ _ _ h => h) (Or.inl ⟨by rfl, ?_⟩) (by assumption) ?_
      rotate_left
      · (intro w hSw; (try dsimp only at hSw); go_simp) <;> with_reducible rfl
      simp only [Act.put, List.setIfInBounds_toArray, List.set_cons_zero, List.set_cons_succ, List.getElem_toArray, List.getElem_cons_zero, List.getElem_cons_succ]
      refine wpAnyH_take (i := 10) (v := undef) rfl (by kernel_rfl) (by kernel_rfl) (by kernel_rfl) (fun _ _ _ h => h) (Or.inr ⟨by rfl, rfl⟩) (by assumption) ?_
      simp only [Act.put, List.setIfInBounds_toArray, List.set_cons_zero, List.set_cons_succ, List.getElem_toArray, List.getElem_cons_zero, List.getElem_cons_succ]
      refine wpAnyH_take (i := 11) (v := undef) rfl (by kernel_rfl) (by kernel_rfl) (by kernel_rfl) (fun _ _ _ h => h) (Or.inr ⟨by rfl, rfl⟩) (by assumption) ?_
      simp only [Act.put, List.setIfInBounds_toArray, List.set_cons_zero, List.set_cons_succ, List.getElem_toArray, List.getElem_cons_zero, List.getElem_cons_succ]
      refine wpAnyH_take (i := 12) (v := undef) rfl (by kernel_rfl) (by kernel_rfl) (by kernel_rfl) (fun _ _ _ h => h) (Or.inr ⟨by rfl, rfl⟩) (by assumption) ?_
      simp only [Act.put, List.setIfInBounds_toArray, List.set_cons_zero, List.set_cons_succ, List.getElem_toArray, List.getElem_cons_zero, List.getElem_cons_succ]
      refine wpAnyH_take (i := 13) (v := undef) rfl (by kernel_rfl) (by kernel_rfl) (by kernel_rfl) (fun _ _ _ h => h) (Or.inr ⟨by rfl, rfl⟩) (by assumption) ?_
      simp only [Act.put, List.setIfInBounds_toArray, List.set_cons_zero, List.set_cons_succ, List.getElem_toArray, List.getElem_cons_zero, List.getElem_cons_succ]
      refine wpAnyH_take (i := 14) (v := undef) rfl (by kernel_rfl) (by kernel_rfl) (by kernel_rfl) (fun _ _ _ h => h) (Or.inr ⟨by rfl, rfl⟩) (by assumption) ?_
      simp only [Act.put, List.setIfInBounds_toArray, List.set_cons_zero, List.set_cons_succ, List.getElem_toArray, List.getElem_cons_zero, List.getElem_cons_succ]
      refine wpAnyH_take (i := 15) (v := undef) rfl (by kernel_rfl) (by kernel_rfl) (by kernel_rfl) (fun _ _ _ h => h) (Or.inr ⟨by rfl, rfl⟩) (by assumption) ?_
      simp only [Act.put, List.setIfInBounds_toArray, List.set_cons_zero, List.set_cons_succ, List.getElem_toArray, List.getElem_cons_zero, List.getElem_cons_succ]
      refine wpAnyH_take (i := 16) (v := ?_) rfl (by kernel_rfl) (by kernel_rfl) (by kernel_rfl) (fun _ _ _ h => h) (Or.inl ⟨by rfl, ?_⟩) (by assumption) ?_
      rotate_left
      · (intro w hSw; (try dsimp only at hSw); go_simp) <;> with_reducible rfl
      simp only [Act.put, List.setIfInBounds_toArray, List.set_cons_zero, List.set_cons_succ, List.getElem_toArray, List.getElem_cons_zero, List.getElem_cons_succ]
      refine wpAnyH_take (i := 17) (v := ?_) rfl (by kernel_rfl) (by kernel_rfl) (by kernel_rfl) (fun _ _ _ h => h) (Or.inl ⟨by rfl, ?_⟩) (by assumption) ?_
      rotate_left
      · (intro w hSw; (try dsimp only at hSw); go_simp) <;> with_reducible rfl
      simp only [Act.put, List.setIfInBounds_toArray, List.set_cons_zero, List.set_cons_succ, List.getElem_toArray, List.getElem_cons_zero, List.getElem_cons_succ]
      refine wpAnyH_done (by kernel_rfl) ?_ _
      all_goals
        go_wp2_with (first
      | (go_at_call 90; refine (rhasI_any k _ _ (by decide)).mono ?_; rintro e w5 ⟨rfl, f5⟩; replace FF := Lib.hid (FF.out.transNo f5); replace BB := Lib.hid (BB.out.fr f5 (fun h => h)); clear f5 c0 c1 c2 c3 c4 c5 c6 c7 c8; obtain ⟨c0, c1, c2, c3, c4, c5, c6, c7, c8⟩ := ent_cells BB.out)
      | (go_at_call 74; refine (rin_any _ _ _ _).mono ?_; rintro e w5 ⟨rfl, rfl⟩))
      all_goals
        go_ret
        refine ⟨ret_bool ?_, FF.out⟩
        simp only [placesB, hasI_t, hasI_c, hasI_C, hasI_o, hasI_r]
        simp_all
  · clear hp
    have hm2 : (hasI k 116 = true ∧ (te != -1) = false) ∨ (hasI k 116 = false ∧ (te != -1) = true) := by
      cases h1 : hasI k 116 <;> cases h2 : (te != -1) <;> simp_all
    clear hq hm
    rcases hm2 with ⟨u1, hm⟩ | ⟨u1, hm⟩
    all_goals
      go_enter Try.func75, Try.ntmps75
      go_wp2_with fail
      replace FF := Lib.hid FF.out.drew
      replace BB := Lib.hid (blk_drew BB.out)
      refine wp_region_held_drew (S := fun V => Fr No w V ∧ Blk V w.heap.size TEnt #[.int .i64 k, .int .i64 tick, .int .i64 te, .int .i64 ce, .int .i64 ot, .int .i64 ep, .int .i64 fr, .int .i64 un, .int .i64 n] ∧ V.cell? ⟨w.heap.size, 2, none⟩ = some (.int .i64 te)) (by kernel_rfl) ⟨FF.out, BB.out, c2⟩ (fun hHeld => ?_)
      refine wpAnyH_take (i := 0) (v := ?_) rfl (by kernel_rfl) (by kernel_rfl) (by kernel_rfl) (fun _ _ _ h => h) (Or.inl ⟨by rfl, ?_⟩) (by assumption) ?_
      rotate_left
      · (intro w hSw; (try dsimp only at hSw); go_simp) <;> with_reducible rfl
      simp only [Act.put, List.setIfInBounds_toArray, List.set_cons_zero, List.set_cons_succ, List.getElem_toArray, List.getElem_cons_zero]
      refine wpAnyH_take (i := 2) (v := ?_) rfl (by kernel_rfl) (by kernel_rfl) (by kernel_rfl) (fun _ _ _ h => h) (Or.inl ⟨by rfl, ?_⟩) (by assumption) ?_
      rotate_left
      · (intro w hSw; (try dsimp only at hSw); go_simp) <;> with_reducible rfl
      simp only [Act.put, List.setIfInBounds_toArray, List.set_cons_zero, List.set_cons_succ, List.getElem_toArray, List.getElem_cons_zero, List.getElem_cons_succ]
      refine wpAnyH_take (i := 3) (v := ?_) rfl (by kernel_rfl) (by kernel_rfl) (by kernel_rfl) (fun _ _ _ h => h) (Or.inl ⟨by rfl, ?_⟩) (by assumption) ?_
      rotate_left
      · (intro w hSw; (try dsimp only at hSw); go_simp) <;> with_reducible rfl
      simp only [Act.put, List.setIfInBounds_toArray, List.set_cons_zero, List.set_cons_succ, List.getElem_toArray, List.getElem_cons_zero, List.getElem_cons_succ]
      refine wpAnyH_take (i := 4) (v := ?_) rfl (by kernel_rfl) (by kernel_rfl) (by kernel_rfl) (fun _ _ _ h => h) (Or.inl ⟨by rfl, ?_⟩) (by assumption) ?_
      rotate_left
      · (intro w hSw; (try dsimp only at hSw); go_simp) <;> with_reducible rfl
      simp only [Act.put, List.setIfInBounds_toArray, List.set_cons_zero, List.set_cons_succ, List.getElem_toArray, List.getElem_cons_zero, List.getElem_cons_succ]
      refine wpAnyH_ready (rs := [1]) (by kernel_rfl) (by simp) (AllReadyH.cons rfl (fun K hK => ?_) AllReadyH.nil)
      go_simp
      refine (rhasI_any k _ _ (by decide)).mono ?_
      rintro e w5 ⟨rfl, f5⟩
      replace FF := Lib.hid (FF.out.transNo f5)
      replace BB := Lib.hid (BB.out.fr f5 (fun h => h))
      clear f5 c0 c1 c2 c3 c4 c5 c6 c7 c8
      obtain ⟨c0, c1, c2, c3, c4, c5, c6, c7, c8⟩ := ent_cells BB.out
      go_wp2_with fail
      refine hK.out _ _ ⟨FF.out, BB.out, c2⟩ (fun hHeld => ?_)
      clear hK K
      try simp only [Act.put, List.setIfInBounds_toArray, List.set_cons_zero, List.set_cons_succ, List.getElem_toArray, List.getElem_cons_zero, List.getElem_cons_succ]
      refine wpAnyH_take (i := 5) (v := ?_) rfl (by kernel_rfl) (by kernel_rfl) (by kernel_rfl) (fun _ _ _ h => h) (Or.inl ⟨by rfl, ?_⟩) (by assumption) ?_
      rotate_left
      · (intro w hSw; (try dsimp only at hSw); go_simp) <;> with_reducible rfl
      simp only [Act.put, List.setIfInBounds_toArray, List.set_cons_zero, List.set_cons_succ, List.getElem_toArray, List.getElem_cons_zero, List.getElem_cons_succ]
      refine wpAnyH_take (i := 6) (v := ?_) rfl (by kernel_rfl) (by kernel_rfl) (by kernel_rfl) (fun _ _ _ h => h) (Or.inl ⟨by rfl, ?_⟩) (by assumption) ?_
      rotate_left
      · (intro w hSw; (try dsimp only at hSw); go_simp) <;> with_reducible rfl
      simp only [Act.put, List.setIfInBounds_toArray, List.set_cons_zero, List.set_cons_succ, List.getElem_toArray, List.getElem_cons_zero, List.getElem_cons_succ]
      refine wpAnyH_take (i := 7) (v := undef) rfl (by kernel_rfl) (by kernel_rfl) (by kernel_rfl) (fun _ _ _ h => h) (Or.inr ⟨by rfl, rfl⟩) (by assumption) ?_
      simp only [Act.put, List.setIfInBounds_toArray, List.set_cons_zero, List.set_cons_succ, List.getElem_toArray, List.getElem_cons_zero, List.getElem_cons_succ]
      refine wpAnyH_take (i := 8) (v := undef) rfl (by kernel_rfl) (by kernel_rfl) (by kernel_rfl) (fun _ _ _ h => h) (Or.inr ⟨by rfl, rfl⟩) (by assumption) ?_
      simp only [Act.put, List.setIfInBounds_toArray, List.set_cons_zero, List.set_cons_succ, List.getElem_toArray, List.getElem_cons_zero, List.getElem_cons_succ]
      refine wpAnyH_take (i := 9) (v := undef) rfl (by kernel_rfl) (by kernel_rfl) (by kernel_rfl) (fun _ _ _ h => h) (Or.inr ⟨by rfl, rfl⟩) (by assumption) ?_
      simp only [Act.put, List.setIfInBounds_toArray, List.set_cons_zero, List.set_cons_succ, List.getElem_toArray, List.getElem_cons_zero, List.getElem_cons_succ]
      refine wpAnyH_take (i := 10) (v := undef) rfl (by kernel_rfl) (by kernel_rfl) (by kernel_rfl) (fun _ _ _ h => h) (Or.inr ⟨by rfl, rfl⟩) (by assumption) ?_
      simp only [Act.put, List.setIfInBounds_toArray, List.set_cons_zero, List.set_cons_succ, List.getElem_toArray, List.getElem_cons_zero, List.getElem_cons_succ]
      refine wpAnyH_take (i := 11) (v := undef) rfl (by kernel_rfl) (by kernel_rfl) (by kernel_rfl) (fun _ _ _ h => h) (Or.inr ⟨by rfl, rfl⟩) (by assumption) ?_
      simp only [Act.put, List.setIfInBounds_toArray, List.set_cons_zero, List.set_cons_succ, List.getElem_toArray, List.getElem_cons_zero, List.getElem_cons_succ]
      refine wpAnyH_take (i := 12) (v := undef) rfl (by kernel_rfl) (by kernel_rfl) (by kernel_rfl) (fun _ _ _ h => h) (Or.inr ⟨by rfl, rfl⟩) (by assumption) ?_
      simp only [Act.put, List.setIfInBounds_toArray, List.set_cons_zero, List.set_cons_succ, List.getElem_toArray, List.getElem_cons_zero, List.getElem_cons_succ]
      refine wpAnyH_take (i := 13) (v := undef) rfl (by kernel_rfl) (by kernel_rfl) (by kernel_rfl) (fun _ _ _ h => h) (Or.inr ⟨by rfl, rfl⟩) (by assumption) ?_
      simp only [Act.put, List.setIfInBounds_toArray, List.set_cons_zero, List.set_cons_succ, List.getElem_toArray, List.getElem_cons_zero, List.getElem_cons_succ]
      refine wpAnyH_take (i := 14) (v := undef) rfl (by kernel_rfl) (by kernel_rfl) (by kernel_rfl) (fun _ _ _ h => h) (Or.inr ⟨by rfl, rfl⟩) (by assumption) ?_
      simp only [Act.put, List.setIfInBounds_toArray, List.set_cons_zero, List.set_cons_succ, List.getElem_toArray, List.getElem_cons_zero, List.getElem_cons_succ]
      refine wpAnyH_take (i := 15) (v := undef) rfl (by kernel_rfl) (by kernel_rfl) (by kernel_rfl) (fun _ _ _ h => h) (Or.inr ⟨by rfl, rfl⟩) (by assumption) ?_
      simp only [Act.put, List.setIfInBounds_toArray, List.set_cons_zero, List.set_cons_succ, List.getElem_toArray, List.getElem_cons_zero, List.getElem_cons_succ]
      refine wpAnyH_take (i := 16) (v := undef) rfl (by kernel_rfl) (by kernel_rfl) (by kernel_rfl) (fun _ _ _ h => h) (Or.inr ⟨by rfl, rfl⟩) (by assumption) ?_
      simp only [Act.put, List.setIfInBounds_toArray, List.set_cons_zero, List.set_cons_succ, List.getElem_toArray, List.getElem_cons_zero, List.getElem_cons_succ]
      refine wpAnyH_take (i := 17) (v := ?_) rfl (by kernel_rfl) (by kernel_rfl) (by kernel_rfl) (fun _ _ _ h => h) (Or.inl ⟨by rfl, ?_⟩) (by assumption) ?_
      rotate_left
      · (intro w hSw; (try dsimp only at hSw); go_simp) <;> with_reducible rfl
      simp only [Act.put, List.setIfInBounds_toArray, List.set_cons_zero, List.set_cons_succ, List.getElem_toArray, List.getElem_cons_zero, List.getElem_cons_succ]
      refine wpAnyH_done (by kernel_rfl) ?_ _
      all_goals
        go_wp2_with fail
      all_goals
        go_ret
        refine ⟨ret_bool ?_, FF.out⟩
        simp only [placesB, hasI_t, hasI_c, hasI_C, hasI_o, hasI_r]
        simp_all
end Go.Proofs.Ytoiiblopnchljaa
