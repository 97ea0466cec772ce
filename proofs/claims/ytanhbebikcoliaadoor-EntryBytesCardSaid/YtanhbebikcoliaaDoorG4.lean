/-
  Several texts in one: EntR, EntRs, EntRp, EntRt.
-/
import Derived.Test.YtanhbebikcoliaaDoorG0
import Derived.Test.YtanhbebikcoliaaDoorG2
import Derived.Deep.RegionHeld3
import Derived.Deep.DeepCutAuto
import Derived.IntWalk
/- The contracts of the reference's shapes of entries. -/
namespace Go.Proofs.YtanhbebikcoliaaDoor
open Go.ChangeShapes Go.WideShapes Go.ChangeAt Go.RowKit
set_option linter.unusedVariables false

theorem rin_any (n lo hi : Int) (w : World) :
    Calls Tryd.prog 47 #[.int .i64 n, .int .i64 lo, .int .i64 hi] w fun e w' => e = .returned (.bool (inB lo hi n)) ∧ w = w' := by
  by_cases h1 : lo ≤ n
  · by_cases h2 : n ≤ hi
    · go_enter Tryd.func47, Tryd.ntmps47
      go_wp2_with fail
      go_ret
      exact ⟨ret_bool (by simp [inB, h1, h2]), rfl⟩
    · go_enter Tryd.func47, Tryd.ntmps47
      go_wp2_with fail
      go_ret
      exact ⟨ret_bool (by simp [inB, h1, h2]), rfl⟩
  · go_enter Tryd.func47, Tryd.ntmps47
    go_wp2_with fail
    go_ret
    exact ⟨ret_bool (by unfold inB; rw [decide_eq_false (by omega)]; rfl), rfl⟩

theorem usesN_len (k : Int) : (usesN k).length ≤ 6 := by
  have hcase : k = 1 ∨ k = 2 ∨ k = 3 ∨ k = 4 ∨ k = 5 ∨ k = 6 ∨ k = 7 ∨ k = 8 ∨ k = 9 ∨ k = 10 ∨ k = 11 ∨ k = 12 ∨ k = 13 ∨ k = 14 ∨ k = 15 ∨ k = 16 ∨ (k < 1 ∨ 16 < k) := by omega
  rcases hcase with rfl | rfl | rfl | rfl | rfl | rfl | rfl | rfl | rfl | rfl | rfl | rfl | rfl | rfl | rfl | rfl | hk
  iterate 16 · decide
  have hu : usesN k = [63] := by unfold usesN; repeat (first | rw [if_neg (by omega)] | rfl)
  rw [hu]
  decide

set_option maxHeartbeats 2000000 in
theorem uses_any (k : Int) (w : World) :
    Calls Tryd.prog 78 #[.int .i64 k] w fun e w' => e = .returned (.string ⟨(usesN k).toArray⟩) ∧ Fr No w w' := by
  have hcase : k = 1 ∨ k = 2 ∨ k = 3 ∨ k = 4 ∨ k = 5 ∨ k = 6 ∨ k = 7 ∨ k = 8 ∨ k = 9 ∨ k = 10 ∨ k = 11 ∨ k = 12 ∨ k = 13 ∨ k = 14 ∨ k = 15 ∨ k = 16 ∨ k < 1 ∨ 16 < k := by omega
  rcases hcase with rfl | rfl | rfl | rfl | rfl | rfl | rfl | rfl | rfl | rfl | rfl | rfl | rfl | rfl | rfl | rfl | hk | hk
  iterate 16
    · go_enter Tryd.func78, Tryd.ntmps78
      go_wp2_with fail
      go_ret
      exact ⟨rfl, (Fr.refl _ _).alloc _⟩
  · have hu : usesN k = [63] := by unfold usesN; repeat (first | rw [if_neg (by omega)] | rfl)
    rw [hu]
    clear hu
    have t1 : decide (k < 1) = true := by simp; omega
    go_enter Tryd.func78, Tryd.ntmps78
    go_wp2_with fail
    go_ret
    exact ⟨rfl, (Fr.refl _ _).alloc _⟩
  · have hu : usesN k = [63] := by unfold usesN; repeat (first | rw [if_neg (by omega)] | rfl)
    rw [hu]
    clear hu
    have t1 : decide (k < 1) = false := by simp; omega
    have t2 : decide (17 ≤ k) = true := by simp; omega
    go_enter Tryd.func78, Tryd.ntmps78
    go_wp2_with fail
    go_ret
    exact ⟨rfl, (Fr.refl _ _).alloc _⟩

theorem ba_get (l : List UInt8) (j : Nat) (x : UInt8) (h : j < (⟨l.toArray⟩ : ByteArray).size) (hx : l[j]? = some x) : (⟨l.toArray⟩ : ByteArray)[j] = x := by
  have h1 : j < l.length := by
    have h2 : j < l.toArray.size := h
    rwa [List.size_toArray] at h2
  rw [List.getElem?_eq_getElem h1] at hx
  injection hx

theorem rhas_any (k : Int) (c : UInt8) (w : World) :
    Calls Tryd.prog 61 #[.int .i64 k, bv c] w fun e w' => e = .returned (.bool (hasN k c)) ∧ Fr No w w' := by
  have hll := usesN_len k
  have hC := fun W => uses_any k W
  unfold hasN
  revert hC hll
  generalize usesN k = l
  intro hll hC
  have HC := Lib.hid hC
  clear hC
  go_enter Tryd.func61, Tryd.ntmps61
  go_wp2_with fail
  refine (HC.out _).mono ?_
  rintro e w1 ⟨rfl, f1⟩
  have F1 := Lib.hid f1
  clear f1
  go_wp2_with fail
  go_loopw [6] (fun i wr => ∃ j : Nat, i = .int .i64 j ∧ j ≤ l.length ∧ (∀ m, (hm : m < j) → l[m]? ≠ some c) ∧ wr = w1) (fun i _ => l.length - (intOf i).toNat)
  case atStart => exact ⟨0, rfl, Nat.zero_le _, fun m hm => absurd hm (Nat.not_lt_zero _), rfl⟩
  case round =>
    obtain ⟨j, rfl, hj, hno, rfl⟩ := hrel
    have HNO := Lib.hid hno
    clear hno
    by_cases hlt : j < l.length
    · obtain ⟨x, hx⟩ : ∃ x, l[j]? = some x := ⟨_, List.getElem?_eq_getElem hlt⟩
      have hg := ba_get l j x (by show j < l.toArray.size; rwa [List.size_toArray]) hx
      have HX := Lib.hid hx
      clear hx
      by_cases hxc : x = c
      · subst hxc
        go_wp2_with fail
        go_ret
        refine ⟨ret_bool ?_, F1.out⟩
        exact (List.contains_iff_mem.2 (List.mem_of_getElem? HX.out)).symm
      · have hq : ((x.toNat : Int) == (c.toNat : Int)) = false := by
          simp only [beq_eq_false_iff_ne, ne_eq, Int.natCast_inj]
          exact fun h => hxc (UInt8.toNat_inj.1 h)
        go_wp2_with fail
        go_roundw
        case rel =>
          refine ⟨j + 1, by go_num, by omega, fun m hm => ?_, trivial⟩
          rcases Nat.lt_or_ge m j with h | h
          · exact HNO.out m h
          · obtain rfl : m = j := by omega
            rw [HX.out]
            exact fun h => hxc (Option.some.inj h)
        case measure => simp [intOf]; omega
    · go_wp2_with fail
      go_ret
      refine ⟨ret_bool ?_, F1.out⟩
      symm
      rw [Bool.eq_false_iff]
      intro h
      rw [List.contains_iff_mem] at h
      obtain ⟨m, hm, he⟩ := List.getElem_of_mem h
      exact HNO.out m (by omega) (by rw [List.getElem?_eq_getElem hm, he])
end Go.Proofs.YtanhbebikcoliaaDoor
/- The contract of the reference's 'numbers' of an entry. -/
namespace Go.Proofs.YtanhbebikcoliaaDoor
open Go.ChangeShapes Go.WideShapes Go.ChangeAt Go.RowKit
set_option linter.unusedVariables false

/-- Whether a kind uses what a byte says. -/
def hasI (k m : Int) : Bool := hasN k (UInt8.ofNat m.toNat)
theorem rhasI_any (k m : Int) (w : World) (h : 0 ≤ m ∧ m < 256) :
    Calls Tryd.prog 61 #[.int .i64 k, .int .u8 m] w fun e w' => e = .returned (.bool (hasI k m)) ∧ Fr No w w' := by
  have := rhas_any k (UInt8.ofNat m.toNat) w
  have hm : bv (UInt8.ofNat m.toNat) = .int .u8 m := by
    unfold bv
    congr 1
    rw [UInt8.toNat_ofNat']
    omega
  rw [hm] at this
  exact this
theorem hasI_t (k : Int) : hasN k 116 = hasI k 116 := rfl
theorem hasI_c (k : Int) : hasN k 99 = hasI k 99 := rfl
theorem hasI_C (k : Int) : hasN k 67 = hasI k 67 := rfl
theorem hasI_o (k : Int) : hasN k 111 = hasI k 111 := rfl
theorem hasI_r (k : Int) : hasN k 114 = hasI k 114 := rfl
theorem hasI_e (k : Int) : hasN k 101 = hasI k 101 := rfl
theorem hasI_w (k : Int) : hasN k 119 = hasI k 119 := rfl
theorem hasI_v (k : Int) : hasN k 118 = hasI k 118 := rfl
theorem hasI_b (k : Int) : hasN k 98 = hasI k 98 := rfl
theorem hasI_m (k : Int) : hasN k 109 = hasI k 109 := rfl
theorem hasI_n (k : Int) : hasN k 110 = hasI k 110 := rfl

set_option maxHeartbeats 4000000 in
theorem numbers_any (e : En) (nv : Int) (w : World) (h1 : -4611686018427387904 ≤ nv) (h2 : nv ≤ 4611686018427387904) :
    Calls Tryd.prog 49 #[e.v, .int .i64 nv] w fun r w' => r = .returned (.bool (numbersB e nv)) ∧ Fr No w w' := by
  obtain ⟨k, tick, te, ce, ot, ep, fr, un, n⟩ := e
  unfold En.v
  have hcase : ∃ b1 b2 : Bool, hasI k 101 = b1 ∧ hasI k 119 = b2 := ⟨_, _, rfl, rfl⟩
  obtain ⟨b1, b2, e1, e2⟩ := hcase
  obtain ⟨p, hp⟩ : ∃ p : Bool, inB 0 1073741824 fr = p := ⟨_, rfl⟩
  obtain ⟨q, hq⟩ : ∃ q : Bool, (fr == 0) = q := ⟨_, rfl⟩
  have FF := Lib.hid (fr_alloc w (.cells #[.int .i64 k, .int .i64 tick, .int .i64 te, .int .i64 ce, .int .i64 ot, .int .i64 ep, .int .i64 fr, .int .i64 un, .int .i64 n] TEnt))
  have BB := Lib.hid (Blk.new w TEnt #[.int .i64 k, .int .i64 tick, .int .i64 te, .int .i64 ce, .int .i64 ot, .int .i64 ep, .int .i64 fr, .int .i64 un, .int .i64 n])
  obtain ⟨c0, c1, c2, c3, c4, c5, c6, c7, c8⟩ := ent_cells BB.out
  cases b1 <;> cases b2 <;> cases p <;> cases q
  all_goals
    go_enter Tryd.func49, Tryd.ntmps49
    go_wp2_with (first
      | (go_at_call 61; refine (rhasI_any k _ _ (by decide)).mono ?_; rintro e w5 ⟨rfl, f5⟩; replace FF := Lib.hid (FF.out.transNo f5); replace BB := Lib.hid (BB.out.fr f5 (fun h => h)); clear f5 c0 c1 c2 c3 c4 c5 c6 c7 c8; obtain ⟨c0, c1, c2, c3, c4, c5, c6, c7, c8⟩ := ent_cells BB.out)
      | (go_at_call 47; refine (rin_any _ _ _ _).mono ?_; rintro e w5 ⟨rfl, rfl⟩))
    all_goals
      go_ret
      refine ⟨ret_bool ?_, FF.out⟩
      simp only [numbersB, hasI_e, hasI_w, hasI_v, hasI_b, hasI_m, hasI_n]
      simp_all
end Go.Proofs.YtanhbebikcoliaaDoor
/- The contract of the reference's 'places' of an entry. -/
namespace Go.Proofs.YtanhbebikcoliaaDoor
open Go.ChangeShapes Go.WideShapes Go.ChangeAt Go.RowKit
set_option linter.unusedVariables false

/-- Which of its places a kind uses. -/
theorem uses_places (k : Int) : (hasI k 116 = true ∧ hasI k 99 = true ∧ hasI k 67 = false ∧ hasI k 111 = true ∧ hasI k 114 = false) ∨ (hasI k 116 = true ∧ hasI k 99 = true ∧ hasI k 67 = false ∧ hasI k 111 = false ∧ hasI k 114 = false) ∨
    (hasI k 116 = true ∧ hasI k 99 = false ∧ hasI k 67 = false ∧ hasI k 111 = false ∧ hasI k 114 = false) ∨ (hasI k 116 = true ∧ hasI k 99 = false ∧ hasI k 67 = true ∧ hasI k 111 = false ∧ hasI k 114 = false) ∨
    (hasI k 116 = false ∧ hasI k 99 = true ∧ hasI k 67 = false ∧ hasI k 111 = false ∧ hasI k 114 = false) ∨ (hasI k 116 = false ∧ hasI k 99 = false ∧ hasI k 67 = false ∧ hasI k 111 = false ∧ hasI k 114 = true) ∨
    (hasI k 116 = false ∧ hasI k 99 = false ∧ hasI k 67 = false ∧ hasI k 111 = false ∧ hasI k 114 = false) := by
  have hcase : k = 1 ∨ k = 2 ∨ k = 3 ∨ k = 4 ∨ k = 5 ∨ k = 6 ∨ k = 7 ∨ k = 8 ∨ k = 9 ∨ k = 10 ∨ k = 11 ∨ k = 12 ∨ k = 13 ∨ k = 14 ∨ k = 15 ∨ k = 16 ∨ (k < 1 ∨ 16 < k) := by omega
  rcases hcase with rfl | rfl | rfl | rfl | rfl | rfl | rfl | rfl | rfl | rfl | rfl | rfl | rfl | rfl | rfl | rfl | hk
  iterate 16 · decide
  have hu : usesN k = [63] := by unfold usesN; repeat (first | rw [if_neg (by omega)] | rfl)
  unfold hasI hasN
  rw [hu]
  decide

set_option maxHeartbeats 4000000 in
theorem places_any (e : En) (nt nc nr : Int) (w : World) (h1 : -4611686018427387904 ≤ nt) (h2 : nt ≤ 4611686018427387904) (h3 : -4611686018427387904 ≤ nc) (h4 : nc ≤ 4611686018427387904) (h5 : -4611686018427387904 ≤ nr) (h6 : nr ≤ 4611686018427387904) :
    Calls Tryd.prog 48 #[e.v, .int .i64 nt, .int .i64 nc, .int .i64 nr] w fun r w' => r = .returned (.bool (placesB e nt nc nr)) ∧ Fr No w w' := by
  obtain ⟨k, tick, te, ce, ot, ep, fr, un, n⟩ := e
  unfold En.v
  have FF := Lib.hid (fr_alloc w (.cells #[.int .i64 k, .int .i64 tick, .int .i64 te, .int .i64 ce, .int .i64 ot, .int .i64 ep, .int .i64 fr, .int .i64 un, .int .i64 n] TEnt))
  have BB := Lib.hid (Blk.new w TEnt #[.int .i64 k, .int .i64 tick, .int .i64 te, .int .i64 ce, .int .i64 ot, .int .i64 ep, .int .i64 fr, .int .i64 un, .int .i64 n])
  obtain ⟨c0, c1, c2, c3, c4, c5, c6, c7, c8⟩ := ent_cells BB.out
  obtain ⟨q, hq⟩ : ∃ q : Bool, (te != -1) = q := ⟨_, rfl⟩
  obtain ⟨p, hp⟩ : ∃ p : Bool, inB (-1) (nc - 1) ot = p := ⟨_, rfl⟩
  have hw1 : IntKind.i64.wrap (nt - 1) = nt - 1 := IntWalk.i64_in _ (by omega)
  have hw2 : IntKind.i64.wrap (nc - 1) = nc - 1 := IntWalk.i64_in _ (by omega)
  have hw3 : IntKind.i64.wrap (nr - 1) = nr - 1 := IntWalk.i64_in _ (by omega)
  by_cases hm : hasI k 116 = (te != -1)
  · rcases uses_places k with ⟨u1, u2, u3, u4, u5⟩ | ⟨u1, u2, u3, u4, u5⟩ | ⟨u1, u2, u3, u4, u5⟩ | ⟨u1, u2, u3, u4, u5⟩ | ⟨u1, u2, u3, u4, u5⟩ | ⟨u1, u2, u3, u4, u5⟩ | ⟨u1, u2, u3, u4, u5⟩
    all_goals
      rw [u1] at hm
      replace hm := hm.symm
      rw [hm] at hq
      subst hq
    · cases p
      all_goals
        go_enter Tryd.func48, Tryd.ntmps48
        go_wp2_with fail
        replace FF := Lib.hid FF.out.drew
        replace BB := Lib.hid (blk_drew BB.out)
        go_region_held3 (fun V => Fr No w V ∧ Blk V w.heap.size TEnt #[.int .i64 k, .int .i64 tick, .int .i64 te, .int .i64 ce, .int .i64 ot, .int .i64 ep, .int .i64 fr, .int .i64 un, .int .i64 n] ∧ V.cell? ⟨w.heap.size, 2, none⟩ = some (.int .i64 te)) (exact ⟨FF.out, BB.out, c2⟩) (first
        | (go_at_call 61; refine (rhasI_any k _ _ (by decide)).mono ?_; rintro e w5 ⟨rfl, f5⟩; replace FF := Lib.hid (FF.out.transNo f5); replace BB := Lib.hid (BB.out.fr f5 (fun h => h)); clear f5 c0 c1 c2 c3 c4 c5 c6 c7 c8; obtain ⟨c0, c1, c2, c3, c4, c5, c6, c7, c8⟩ := ent_cells BB.out)
        | (go_at_call 47; refine (rin_any _ _ _ _).mono ?_; rintro e w5 ⟨rfl, rfl⟩))
        all_goals
          go_wp2_with (first
        | (go_at_call 61; refine (rhasI_any k _ _ (by decide)).mono ?_; rintro e w5 ⟨rfl, f5⟩; replace FF := Lib.hid (FF.out.transNo f5); replace BB := Lib.hid (BB.out.fr f5 (fun h => h)); clear f5 c0 c1 c2 c3 c4 c5 c6 c7 c8; obtain ⟨c0, c1, c2, c3, c4, c5, c6, c7, c8⟩ := ent_cells BB.out)
        | (go_at_call 47; refine (rin_any _ _ _ _).mono ?_; rintro e w5 ⟨rfl, rfl⟩))
        all_goals
          go_ret
          refine ⟨ret_bool ?_, FF.out⟩
          simp only [placesB, hasI_t, hasI_c, hasI_C, hasI_o, hasI_r]
          simp_all
    iterate 3
      · clear hp
        go_enter Tryd.func48, Tryd.ntmps48
        go_wp2_with fail
        replace FF := Lib.hid FF.out.drew
        replace BB := Lib.hid (blk_drew BB.out)
        go_region_held3 (fun V => Fr No w V ∧ Blk V w.heap.size TEnt #[.int .i64 k, .int .i64 tick, .int .i64 te, .int .i64 ce, .int .i64 ot, .int .i64 ep, .int .i64 fr, .int .i64 un, .int .i64 n] ∧ V.cell? ⟨w.heap.size, 2, none⟩ = some (.int .i64 te)) (exact ⟨FF.out, BB.out, c2⟩) (first
        | (go_at_call 61; refine (rhasI_any k _ _ (by decide)).mono ?_; rintro e w5 ⟨rfl, f5⟩; replace FF := Lib.hid (FF.out.transNo f5); replace BB := Lib.hid (BB.out.fr f5 (fun h => h)); clear f5 c0 c1 c2 c3 c4 c5 c6 c7 c8; obtain ⟨c0, c1, c2, c3, c4, c5, c6, c7, c8⟩ := ent_cells BB.out)
        | (go_at_call 47; refine (rin_any _ _ _ _).mono ?_; rintro e w5 ⟨rfl, rfl⟩))
        all_goals
          go_wp2_with (first
        | (go_at_call 61; refine (rhasI_any k _ _ (by decide)).mono ?_; rintro e w5 ⟨rfl, f5⟩; replace FF := Lib.hid (FF.out.transNo f5); replace BB := Lib.hid (BB.out.fr f5 (fun h => h)); clear f5 c0 c1 c2 c3 c4 c5 c6 c7 c8; obtain ⟨c0, c1, c2, c3, c4, c5, c6, c7, c8⟩ := ent_cells BB.out)
        | (go_at_call 47; refine (rin_any _ _ _ _).mono ?_; rintro e w5 ⟨rfl, rfl⟩))
        all_goals
          go_ret
          refine ⟨ret_bool ?_, FF.out⟩
          simp only [placesB, hasI_t, hasI_c, hasI_C, hasI_o, hasI_r]
          simp_all
    all_goals
      clear hp
      go_enter Tryd.func48, Tryd.ntmps48
      go_wp2_with fail
      replace FF := Lib.hid FF.out.drew
      replace BB := Lib.hid (blk_drew BB.out)
      refine wp_region_held_drew (S := fun V => Fr No w V ∧ Blk V w.heap.size TEnt #[.int .i64 k, .int .i64 tick, .int .i64 te, .int .i64 ce, .int .i64 ot, .int .i64 ep, .int .i64 fr, .int .i64 un, .int .i64 n] ∧ V.cell? ⟨w.heap.size, 2, none⟩ = some (.int .i64 te)) (by kernel_rfl) ⟨FF.out, BB.out, c2⟩ (fun hHeld => ?_)
      refine wpAnyH_take (i := 0) (v := ?_) rfl (by kernel_rfl) (by kernel_rfl) (by kernel_rfl) (fun _ _ _ h => h) (Or.inl ⟨by rfl, ?_⟩) (by assumption) ?_
      rotate_left
      · (intro w hSw; (try dsimp only at hSw); go_simp) <;> with_reducible rfl
      simp only [Act.put, List.setIfInBounds_toArray, List.set_cons_zero, List.set_cons_succ, List.getElem_toArray, List.getElem_cons_zero]
      refine wpAnyH_take (i := 2) (v := ?_) rfl (by kernel_rfl) (by kernel_rfl) (by kernel_rfl) (fun _ _ _ h => h) (Or.inl ⟨by rfl, ?_⟩) (by assumption) ?_
      rotate_left
      · (intro w hSw; (try dsimp only at hSw); go_simp) <;> with_reducible rfl
      simp only [Act.put, List.setIfInBounds_toArray, List.set_cons_zero, List.set_cons_succ, List.getElem_toArray, List.getElem_cons_zero, List.getElem_cons_succ]
      refine wpAnyH_take (i := 3) (v := ?_) rfl (by kernel_rfl) (by kernel_rfl) (by kernel_rfl) (fun _ _ _ h => h) (Or.inl ⟨by rfl, ?_⟩) (by assumption) ?_
      rotate_left
      · (intro w hSw; (try dsimp only at hSw); go_simp) <;> with_reducible rfl
      simp only [Act.put, List.setIfInBounds_toArray, List.set_cons_zero, List.set_cons_succ, List.getElem_toArray, List.getElem_cons_zero, List.getElem_cons_succ]
      refine wpAnyH_take (i := 4) (v := ?_) rfl (by kernel_rfl) (by kernel_rfl) (by kernel_rfl) (fun _ _ _ h => h) (Or.inl ⟨by rfl, ?_⟩) (by assumption) ?_
      rotate_left
      · (intro w hSw; (try dsimp only at hSw); go_simp) <;> with_reducible rfl
      simp only [Act.put, List.setIfInBounds_toArray, List.set_cons_zero, List.set_cons_succ, List.getElem_toArray, List.getElem_cons_zero, List.getElem_cons_succ]
      refine wpAnyH_ready (rs := [1]) (by kernel_rfl) (by simp) (AllReadyH.cons rfl (fun K hK => ?_) AllReadyH.nil)
      go_simp
      refine (rhasI_any k _ _ (by decide)).mono ?_
      rintro e w5 ⟨rfl, f5⟩
      replace FF := Lib.hid (FF.out.transNo f5)
      replace BB := Lib.hid (BB.out.fr f5 (fun h => h))
      clear f5 c0 c1 c2 c3 c4 c5 c6 c7 c8
      obtain ⟨c0, c1, c2, c3, c4, c5, c6, c7, c8⟩ := ent_cells BB.out
      go_wp2_with fail
      refine hK.out _ _ ⟨FF.out, BB.out, c2⟩ (fun hHeld => ?_)
      clear hK K
      try simp only [Act.put, List.setIfInBounds_toArray, List.set_cons_zero, List.set_cons_succ, List.getElem_toArray, List.getElem_cons_zero, List.getElem_cons_succ]
      refine wpAnyH_take (i := 5) (v := ?_) rfl (by kernel_rfl) (by kernel_rfl) (by kernel_rfl) (fun _ _ _ h => h) (Or.inl ⟨by rfl, ?_⟩) (by assumption) ?_
      rotate_left
      · (intro w hSw; (try dsimp only at hSw); go_simp) <;> with_reducible rfl
      simp only [Act.put, List.setIfInBounds_toArray, List.set_cons_zero, List.set_cons_succ, List.getElem_toArray, List.getElem_cons_zero, List.getElem_cons_succ]
      refine wpAnyH_take (i := 6) (v := ?_) rfl (by kernel_rfl) (by kernel_rfl) (by kernel_rfl) (fun _ _ _ h => h) (Or.inl ⟨by rfl, ?_⟩) (by assumption) ?_
      rotate_left
      · (intro w hSw; (try dsimp only at hSw); go_simp) <;> with_reducible rfl
      simp only [Act.put, List.setIfInBounds_toArray, List.set_cons_zero, List.set_cons_succ, List.getElem_toArray, List.getElem_cons_zero, List.getElem_cons_succ]
      refine wpAnyH_take (i := 7) (v := ?_) rfl (by kernel_rfl) (by kernel_rfl) (by kernel_rfl) (fun _ _ _ h => h) (Or.inl ⟨by rfl, ?_⟩) (by assumption) ?_
      rotate_left
      · (intro w hSw; (try dsimp only at hSw); go_simp) <;> with_reducible rfl
      simp only [Act.put, List.setIfInBounds_toArray, List.set_cons_zero, List.set_cons_succ, List.getElem_toArray, List.getElem_cons_zero, List.getElem_cons_succ]
      refine wpAnyH_ready (rs := [8]) (by kernel_rfl) (by simp) (AllReadyH.cons rfl (fun K hK => ?_) AllReadyH.nil)
      go_simp
      refine (rhasI_any k _ _ (by decide)).mono ?_
      rintro e w5 ⟨rfl, f5⟩
      replace FF := Lib.hid (FF.out.transNo f5)
      replace BB := Lib.hid (BB.out.fr f5 (fun h => h))
      clear f5 c0 c1 c2 c3 c4 c5 c6 c7 c8
      obtain ⟨c0, c1, c2, c3, c4, c5, c6, c7, c8⟩ := ent_cells BB.out
      go_wp2_with fail
      refine hK.out _ _ ⟨FF.out, BB.out, c2⟩ (fun hHeld => ?_)
      clear hK K
      try simp only [Act.put, List.setIfInBounds_toArray, List.set_cons_zero, List.set_cons_succ, List.getElem_toArray, List.getElem_cons_zero, List.getElem_cons_succ]
      refine wpAnyH_take (i := 9) (v := ?_) rfl (by kernel_rfl) (by kernel_rfl) (by kernel_rfl) (fun _ _ _ h => h) (Or.inl ⟨by rfl, ?_⟩) (by assumption) ?_
      rotate_left
      · (intro w hSw; (try dsimp only at hSw); go_simp) <;> with_reducible rfl
      simp only [Act.put, List.setIfInBounds_toArray, List.set_cons_zero, List.set_cons_succ, List.getElem_toArray, List.getElem_cons_zero, List.getElem_cons_succ]
      refine wpAnyH_take (i := 10) (v := undef) rfl (by kernel_rfl) (by kernel_rfl) (by kernel_rfl) (fun _ _ _ h => h) (Or.inr ⟨by rfl, rfl⟩) (by assumption) ?_
      simp only [Act.put, List.setIfInBounds_toArray, List.set_cons_zero, List.set_cons_succ, List.getElem_toArray, List.getElem_cons_zero, List.getElem_cons_succ]
      refine wpAnyH_take (i := 11) (v := undef) rfl (by kernel_rfl) (by kernel_rfl) (by kernel_rfl) (fun _ _ _ h => h) (Or.inr ⟨by rfl, rfl⟩) (by assumption) ?_
      simp only [Act.put, List.setIfInBounds_toArray, List.set_cons_zero, List.set_cons_succ, List.getElem_toArray, List.getElem_cons_zero, List.getElem_cons_succ]
      refine wpAnyH_take (i := 12) (v := undef) rfl (by kernel_rfl) (by kernel_rfl) (by kernel_rfl) (fun _ _ _ h => h) (Or.inr ⟨by rfl, rfl⟩) (by assumption) ?_
      simp only [Act.put, List.setIfInBounds_toArray, List.set_cons_zero, List.set_cons_succ, List.getElem_toArray, List.getElem_cons_zero, List.getElem_cons_succ]
      refine wpAnyH_take (i := 13) (v := undef) rfl (by kernel_rfl) (by kernel_rfl) (by kernel_rfl) (fun _ _ _ h => h) (Or.inr ⟨by rfl, rfl⟩) (by assumption) ?_
      simp only [Act.put, List.setIfInBounds_toArray, List.set_cons_zero, List.set_cons_succ, List.getElem_toArray, List.getElem_cons_zero, List.getElem_cons_succ]
      refine wpAnyH_take (i := 14) (v := undef) rfl (by kernel_rfl) (by kernel_rfl) (by kernel_rfl) (fun _ _ _ h => h) (Or.inr ⟨by rfl, rfl⟩) (by assumption) ?_
      simp only [Act.put, List.setIfInBounds_toArray, List.set_cons_zero, List.set_cons_succ, List.getElem_toArray, List.getElem_cons_zero, List.getElem_cons_succ]
      refine wpAnyH_take (i := 15) (v := undef) rfl (by kernel_rfl) (by kernel_rfl) (by kernel_rfl) (fun _ _ _ h => h) (Or.inr ⟨by rfl, rfl⟩) (by assumption) ?_
      simp only [Act.put, List.setIfInBounds_toArray, List.set_cons_zero, List.set_cons_succ, List.getElem_toArray, List.getElem_cons_zero, List.getElem_cons_succ]
      refine wpAnyH_take (i := 16) (v := ?_) rfl (by kernel_rfl) (by kernel_rfl) (by kernel_rfl) (fun _ _ _ h => h) (Or.inl ⟨by rfl, ?_⟩) (by assumption) ?_
      rotate_left
      · (intro w hSw; (try dsimp only at hSw); go_simp) <;> with_reducible rfl
      simp only [Act.put, List.setIfInBounds_toArray, List.set_cons_zero, List.set_cons_succ, List.getElem_toArray, List.getElem_cons_zero, List.getElem_cons_succ]
      refine wpAnyH_take (i := 17) (v := ?_) rfl (by kernel_rfl) (by kernel_rfl) (by kernel_rfl) (fun _ _ _ h => h) (Or.inl ⟨by rfl, ?_⟩) (by assumption) ?_
      rotate_left
      · (intro w hSw; (try dsimp only at hSw); go_simp) <;> with_reducible rfl
      simp only [Act.put, List.setIfInBounds_toArray, List.set_cons_zero, List.set_cons_succ, List.getElem_toArray, List.getElem_cons_zero, List.getElem_cons_succ]
      refine wpAnyH_done (by kernel_rfl) ?_ _
      all_goals
        go_wp2_with (first
      | (go_at_call 61; refine (rhasI_any k _ _ (by decide)).mono ?_; rintro e w5 ⟨rfl, f5⟩; replace FF := Lib.hid (FF.out.transNo f5); replace BB := Lib.hid (BB.out.fr f5 (fun h => h)); clear f5 c0 c1 c2 c3 c4 c5 c6 c7 c8; obtain ⟨c0, c1, c2, c3, c4, c5, c6, c7, c8⟩ := ent_cells BB.out)
      | (go_at_call 47; refine (rin_any _ _ _ _).mono ?_; rintro e w5 ⟨rfl, rfl⟩))
      all_goals
        go_ret
        refine ⟨ret_bool ?_, FF.out⟩
        simp only [placesB, hasI_t, hasI_c, hasI_C, hasI_o, hasI_r]
        simp_all
  · clear hp
    have hm2 : (hasI k 116 = true ∧ (te != -1) = false) ∨ (hasI k 116 = false ∧ (te != -1) = true) := by
      cases h1 : hasI k 116 <;> cases h2 : (te != -1) <;> simp_all
    clear hq hm
    rcases hm2 with ⟨u1, hm⟩ | ⟨u1, hm⟩
    all_goals
      go_enter Tryd.func48, Tryd.ntmps48
      go_wp2_with fail
      replace FF := Lib.hid FF.out.drew
      replace BB := Lib.hid (blk_drew BB.out)
      refine wp_region_held_drew (S := fun V => Fr No w V ∧ Blk V w.heap.size TEnt #[.int .i64 k, .int .i64 tick, .int .i64 te, .int .i64 ce, .int .i64 ot, .int .i64 ep, .int .i64 fr, .int .i64 un, .int .i64 n] ∧ V.cell? ⟨w.heap.size, 2, none⟩ = some (.int .i64 te)) (by kernel_rfl) ⟨FF.out, BB.out, c2⟩ (fun hHeld => ?_)
      refine wpAnyH_take (i := 0) (v := ?_) rfl (by kernel_rfl) (by kernel_rfl) (by kernel_rfl) (fun _ _ _ h => h) (Or.inl ⟨by rfl, ?_⟩) (by assumption) ?_
      rotate_left
      · (intro w hSw; (try dsimp only at hSw); go_simp) <;> with_reducible rfl
      simp only [Act.put, List.setIfInBounds_toArray, List.set_cons_zero, List.set_cons_succ, List.getElem_toArray, List.getElem_cons_zero]
      refine wpAnyH_take (i := 2) (v := ?_) rfl (by kernel_rfl) (by kernel_rfl) (by kernel_rfl) (fun _ _ _ h => h) (Or.inl ⟨by rfl, ?_⟩) (by assumption) ?_
      rotate_left
      · (intro w hSw; (try dsimp only at hSw); go_simp) <;> with_reducible rfl
      simp only [Act.put, List.setIfInBounds_toArray, List.set_cons_zero, List.set_cons_succ, List.getElem_toArray, List.getElem_cons_zero, List.getElem_cons_succ]
      refine wpAnyH_take (i := 3) (v := ?_) rfl (by kernel_rfl) (by kernel_rfl) (by kernel_rfl) (fun _ _ _ h => h) (Or.inl ⟨by rfl, ?_⟩) (by assumption) ?_
      rotate_left
      · (intro w hSw; (try dsimp only at hSw); go_simp) <;> with_reducible rfl
      simp only [Act.put, List.setIfInBounds_toArray, List.set_cons_zero, List.set_cons_succ, List.getElem_toArray, List.getElem_cons_zero, List.getElem_cons_succ]
      refine wpAnyH_take (i := 4) (v := ?_) rfl (by kernel_rfl) (by kernel_rfl) (by kernel_rfl) (fun _ _ _ h => h) (Or.inl ⟨by rfl, ?_⟩) (by assumption) ?_
      rotate_left
      · (intro w hSw; (try dsimp only at hSw); go_simp) <;> with_reducible rfl
      simp only [Act.put, List.setIfInBounds_toArray, List.set_cons_zero, List.set_cons_succ, List.getElem_toArray, List.getElem_cons_zero, List.getElem_cons_succ]
      refine wpAnyH_ready (rs := [1]) (by kernel_rfl) (by simp) (AllReadyH.cons rfl (fun K hK => ?_) AllReadyH.nil)
      go_simp
      refine (rhasI_any k _ _ (by decide)).mono ?_
      rintro e w5 ⟨rfl, f5⟩
      replace FF := Lib.hid (FF.out.transNo f5)
      replace BB := Lib.hid (BB.out.fr f5 (fun h => h))
      clear f5 c0 c1 c2 c3 c4 c5 c6 c7 c8
      obtain ⟨c0, c1, c2, c3, c4, c5, c6, c7, c8⟩ := ent_cells BB.out
      go_wp2_with fail
      refine hK.out _ _ ⟨FF.out, BB.out, c2⟩ (fun hHeld => ?_)
      clear hK K
      try simp only [Act.put, List.setIfInBounds_toArray, List.set_cons_zero, List.set_cons_succ, List.getElem_toArray, List.getElem_cons_zero, List.getElem_cons_succ]
      refine wpAnyH_take (i := 5) (v := ?_) rfl (by kernel_rfl) (by kernel_rfl) (by kernel_rfl) (fun _ _ _ h => h) (Or.inl ⟨by rfl, ?_⟩) (by assumption) ?_
      rotate_left
      · (intro w hSw; (try dsimp only at hSw); go_simp) <;> with_reducible rfl
      simp only [Act.put, List.setIfInBounds_toArray, List.set_cons_zero, List.set_cons_succ, List.getElem_toArray, List.getElem_cons_zero, List.getElem_cons_succ]
      refine wpAnyH_take (i := 6) (v := ?_) rfl (by kernel_rfl) (by kernel_rfl) (by kernel_rfl) (fun _ _ _ h => h) (Or.inl ⟨by rfl, ?_⟩) (by assumption) ?_
      rotate_left
      · (intro w hSw; (try dsimp only at hSw); go_simp) <;> with_reducible rfl
      simp only [Act.put, List.setIfInBounds_toArray, List.set_cons_zero, List.set_cons_succ, List.getElem_toArray, List.getElem_cons_zero, List.getElem_cons_succ]
      refine wpAnyH_take (i := 7) (v := undef) rfl (by kernel_rfl) (by kernel_rfl) (by kernel_rfl) (fun _ _ _ h => h) (Or.inr ⟨by rfl, rfl⟩) (by assumption) ?_
      simp only [Act.put, List.setIfInBounds_toArray, List.set_cons_zero, List.set_cons_succ, List.getElem_toArray, List.getElem_cons_zero, List.getElem_cons_succ]
      refine wpAnyH_take (i := 8) (v := undef) rfl (by kernel_rfl) (by kernel_rfl) (by kernel_rfl) (fun _ _ _ h => h) (Or.inr ⟨by rfl, rfl⟩) (by assumption) ?_
      simp only [Act.put, List.setIfInBounds_toArray, List.set_cons_zero, List.set_cons_succ, List.getElem_toArray, List.getElem_cons_zero, List.getElem_cons_succ]
      refine wpAnyH_take (i := 9) (v := undef) rfl (by kernel_rfl) (by kernel_rfl) (by kernel_rfl) (fun _ _ _ h => h) (Or.inr ⟨by rfl, rfl⟩) (by assumption) ?_
      simp only [Act.put, List.setIfInBounds_toArray, List.set_cons_zero, List.set_cons_succ, List.getElem_toArray, List.getElem_cons_zero, List.getElem_cons_succ]
      refine wpAnyH_take (i := 10) (v := undef) rfl (by kernel_rfl) (by kernel_rfl) (by kernel_rfl) (fun _ _ _ h => h) (Or.inr ⟨by rfl, rfl⟩) (by assumption) ?_
      simp only [Act.put, List.setIfInBounds_toArray, List.set_cons_zero, List.set_cons_succ, List.getElem_toArray, List.getElem_cons_zero, List.getElem_cons_succ]
      refine wpAnyH_take (i := 11) (v := undef) rfl (by kernel_rfl) (by kernel_rfl) (by kernel_rfl) (fun _ _ _ h => h) (Or.inr ⟨by rfl, rfl⟩) (by assumption) ?_
      simp only [Act.put, List.setIfInBounds_toArray, List.set_cons_zero, List.set_cons_succ, List.getElem_toArray, List.getElem_cons_zero, List.getElem_cons_succ]
      refine wpAnyH_take (i := 12) (v := undef) rfl (by kernel_rfl) (by kernel_rfl) (by kernel_rfl) (fun _ _ _ h => h) (Or.inr ⟨by rfl, rfl⟩) (by assumption) ?_
      simp only [Act.put, List.setIfInBounds_toArray, List.set_cons_zero, List.set_cons_succ, List.getElem_toArray, List.getElem_cons_zero, List.getElem_cons_succ]
      refine wpAnyH_take (i := 13) (v := undef) rfl (by kernel_rfl) (by kernel_rfl) (by kernel_rfl) (fun _ _ _ h => h) (Or.inr ⟨by rfl, rfl⟩) (by assumption) ?_
      simp only [Act.put, List.setIfInBounds_toArray, List.set_cons_zero, List.set_cons_succ, List.getElem_toArray, List.getElem_cons_zero, List.getElem_cons_succ]
      refine wpAnyH_take (i := 14) (v := undef) rfl (by kernel_rfl) (by kernel_rfl) (by kernel_rfl) (fun _ _ _ h => h) (Or.inr ⟨by rfl, rfl⟩) (by assumption) ?_
      simp only [Act.put, List.setIfInBounds_toArray, List.set_cons_zero, List.set_cons_succ, List.getElem_toArray, List.getElem_cons_zero, List.getElem_cons_succ]
      refine wpAnyH_take (i := 15) (v := undef) rfl (by kernel_rfl) (by kernel_rfl) (by kernel_rfl) (fun _ _ _ h => h) (Or.inr ⟨by rfl, rfl⟩) (by assumption) ?_
      simp only [Act.put, List.setIfInBounds_toArray, List.set_cons_zero, List.set_cons_succ, List.getElem_toArray, List.getElem_cons_zero, List.getElem_cons_succ]
      refine wpAnyH_take (i := 16) (v := undef) rfl (by kernel_rfl) (by kernel_rfl) (by kernel_rfl) (fun _ _ _ h => h) (Or.inr ⟨by rfl, rfl⟩) (by assumption) ?_
      simp only [Act.put, List.setIfInBounds_toArray, List.set_cons_zero, List.set_cons_succ, List.getElem_toArray, List.getElem_cons_zero, List.getElem_cons_succ]
      refine wpAnyH_take (i := 17) (v := ?_) rfl (by kernel_rfl) (by kernel_rfl) (by kernel_rfl) (fun _ _ _ h => h) (Or.inl ⟨by rfl, ?_⟩) (by assumption) ?_
      rotate_left
      · (intro w hSw; (try dsimp only at hSw); go_simp) <;> with_reducible rfl
      simp only [Act.put, List.setIfInBounds_toArray, List.set_cons_zero, List.set_cons_succ, List.getElem_toArray, List.getElem_cons_zero, List.getElem_cons_succ]
      refine wpAnyH_done (by kernel_rfl) ?_ _
      all_goals
        go_wp2_with fail
      all_goals
        go_ret
        refine ⟨ret_bool ?_, FF.out⟩
        simp only [placesB, hasI_t, hasI_c, hasI_C, hasI_o, hasI_r]
        simp_all
end Go.Proofs.YtanhbebikcoliaaDoor
/- The contracts of the reference's 'right' and 'Shape' of an entry. -/
namespace Go.Proofs.YtanhbebikcoliaaDoor
open Go.ChangeShapes Go.WideShapes Go.ChangeAt Go.RowKit
set_option linter.unusedVariables false

set_option maxHeartbeats 4000000 in
theorem right_any (e : En) (nt nc nr nv : Int) (w : World) (h1 : -4611686018427387904 ≤ nt) (h2 : nt ≤ 4611686018427387904) (h3 : -4611686018427387904 ≤ nc) (h4 : nc ≤ 4611686018427387904) (h5 : -4611686018427387904 ≤ nr) (h6 : nr ≤ 4611686018427387904) (h7 : -4611686018427387904 ≤ nv) (h8 : nv ≤ 4611686018427387904) :
    Calls Tryd.prog 29 #[e.v, .int .i64 nt, .int .i64 nc, .int .i64 nr, .int .i64 nv] w fun r w' => r = .returned (.bool (rightB e nt nc nr nv)) ∧ Fr No w w' := by
  have HP := fun W => places_any e nt nc nr W h1 h2 h3 h4 h5 h6
  have HN := fun W => numbers_any e nv W h7 h8
  unfold rightB
  revert HP HN
  generalize placesB e nt nc nr = p
  generalize numbersB e nv = q
  intro hp hn
  clear h1 h2 h3 h4 h5 h6 h7 h8
  have HP := Lib.hid hp
  have HN := Lib.hid hn
  clear hp hn
  obtain ⟨k, tick, te, ce, ot, ep, fr, un, n⟩ := e
  unfold En.v at *
  have FF := Lib.hid (fr_alloc w (.cells #[.int .i64 k, .int .i64 tick, .int .i64 te, .int .i64 ce, .int .i64 ot, .int .i64 ep, .int .i64 fr, .int .i64 un, .int .i64 n] TEnt))
  have BB := Lib.hid (Blk.new w TEnt #[.int .i64 k, .int .i64 tick, .int .i64 te, .int .i64 ce, .int .i64 ot, .int .i64 ep, .int .i64 fr, .int .i64 un, .int .i64 n])
  obtain ⟨c0, c1, c2, c3, c4, c5, c6, c7, c8⟩ := ent_cells BB.out
  obtain ⟨b1, hb1⟩ : ∃ b, inB 1 16 k = b := ⟨_, rfl⟩
  obtain ⟨b2, hb2⟩ : ∃ b, inB 0 1073741824 tick = b := ⟨_, rfl⟩
  simp only []
  rw [hb1, hb2]
  cases b1 <;> cases b2 <;> cases p
  all_goals
    go_enter Tryd.func29, Tryd.ntmps29
    go_wp2_with (first
      | (go_at_call 47; refine (rin_any _ _ _ _).mono ?_; rintro e w5 ⟨rfl, rfl⟩)
      | (go_at_call 48; refine (HP.out _).mono ?_; rintro e w5 ⟨rfl, f5⟩; replace FF := Lib.hid (FF.out.transNo f5); replace BB := Lib.hid (BB.out.fr f5 (fun h => h)); clear f5 c0 c1 c2 c3 c4 c5 c6 c7 c8; obtain ⟨c0, c1, c2, c3, c4, c5, c6, c7, c8⟩ := ent_cells BB.out)
      | (go_at_call 49; refine (HN.out _).mono ?_; rintro e w5 ⟨rfl, f5⟩; replace FF := Lib.hid (FF.out.transNo f5); clear f5))
    all_goals
      go_ret
      exact ⟨ret_bool rfl, FF.out⟩

theorem rShape_any (e : En) (w : World) :
    Calls Tryd.prog 14 #[e.v] w fun r w' => r = .returned (.bool (shapeB e)) ∧ Fr No w w' := by
  have HR := fun W => right_any e 32 16 4 30 W (by decide) (by decide) (by decide) (by decide) (by decide) (by decide) (by decide) (by decide)
  unfold shapeB
  rw [fitsB_eq]
  revert HR
  generalize rightB e 32 16 4 30 = q
  intro hr
  have HR := Lib.hid hr
  clear hr
  obtain ⟨k, tick, te, ce, ot, ep, fr, un, n⟩ := e
  unfold En.v at *
  have FF := Lib.hid (fr_alloc w (.cells #[.int .i64 k, .int .i64 tick, .int .i64 te, .int .i64 ce, .int .i64 ot, .int .i64 ep, .int .i64 fr, .int .i64 un, .int .i64 n] TEnt))
  have BB := Lib.hid (Blk.new w TEnt #[.int .i64 k, .int .i64 tick, .int .i64 te, .int .i64 ce, .int .i64 ot, .int .i64 ep, .int .i64 fr, .int .i64 un, .int .i64 n])
  obtain ⟨c0, c1, c2, c3, c4, c5, c6, c7, c8⟩ := ent_cells BB.out
  go_enter Tryd.func14, Tryd.ntmps14
  go_wp2_with fail
  refine (HR.out _).mono ?_
  rintro e w5 ⟨rfl, f5⟩
  replace FF := Lib.hid (FF.out.transNo f5)
  clear f5
  go_wp2_with fail
  go_ret
  exact ⟨ret_bool rfl, FF.out⟩
end Go.Proofs.YtanhbebikcoliaaDoor
