/-
  Several texts in one: QvD.
-/
import Derived.Test.YtokblidfekbeeaaZ27
import Derived.Test.YtokblidfekbeeaaZ29
import Derived.Deep.RegionHeld3
import Derived.Deep.CutBlock
/- The quorum's laws: the act of a step. -/
namespace Go.Proofs.Ytokblidfekbeeaa
open Go.ChangeShapes Go.WideShapes Go.ChangeAt Go.RowKit
set_option linter.unusedVariables false
abbrev TStep : TypeId := 71
def stepV (wh who num : Int) : Value := .agg #[.int .i64 wh, .int .i64 who, .int .i64 num]
def ActCut (W0 : World) (who num : Int) (e : En) (x : Value) (wx : World) : Prop := ∃ g8, x = .pointer (some ⟨g8, 0, none⟩) ∧ W0.heap.size ≤ g8 ∧ Blk wx g8 TAct (actC 0 who num e).toArray ∧ Fr No W0 wx
theorem actCut_a (W0 : World) (c : Obj) (who num : Int) (e : En) : ActCut W0 who num e (.pointer (some ⟨W0.heap.size + 1, 0, none⟩)) ((W0.alloc c).alloc (.cells (actC 0 who num e).toArray TAct)).drew := by
  refine ⟨_, rfl, Nat.le_succ _, ?_, ((fr_alloc _ _).alloc _).drew⟩
  have := Blk.new (W0.alloc c) TAct (actC 0 who num e).toArray
  rw [show (W0.alloc c).heap.size = W0.heap.size + 1 from by simp] at this
  exact this
theorem actCut_b (W0 : World) (c : Obj) (who num : Int) (e : En) : ActCut W0 who num e (.pointer (some ⟨W0.heap.size, 0, none⟩)) ((W0.alloc (.cells (actC 0 who num e).toArray TAct)).alloc c).drew :=
  ⟨_, rfl, Nat.le_refl _, (Blk.new W0 TAct (actC 0 who num e).toArray).fr (F := No) (fr_alloc _ _).drew fun h => h, ((fr_alloc _ _).alloc _).drew⟩
def ActAt (W0 : World) (g8 : Nat) (kind who num : Int) (e : En) (wx : World) : Prop := Blk wx g8 TAct (actC kind who num e).toArray ∧ Fr No W0 wx
theorem ActAt.kind {W0 wx : World} {g8 : Nat} {who num : Int} {e : En} (h8 : W0.heap.size ≤ g8) (hb : Blk wx g8 TAct (actC 0 who num e).toArray) (hf : Fr No W0 wx) (k : Int) : ActAt W0 g8 k who num e (wx.setCell ⟨g8, 0, none⟩ (.int .i64 k)) :=
  ⟨(hb.set_ 0 _).conv rfl, hf.setCell (p := ⟨g8, 0, none⟩) (.inr h8) _⟩
theorem ActAt.num {W0 wx : World} {g8 : Nat} {k who num : Int} {e : En} (h : ActAt W0 g8 k who num e wx) (h8 : W0.heap.size ≤ g8) (m : Int) : ActAt W0 g8 k who m e (wx.setCell ⟨g8, 2, none⟩ (.int .i64 m)) :=
  ⟨(h.1.set_ 2 _).conv rfl, h.2.setCell (p := ⟨g8, 2, none⟩) (.inr h8) _⟩
theorem ActAt.frNo {W0 wx w' : World} {g8 : Nat} {k who num : Int} {e : En} (h : ActAt W0 g8 k who num e wx) (hf : Fr No wx w') : ActAt W0 g8 k who num e w' := ⟨h.1.fr hf fun h => h, h.2.transNo hf⟩
theorem act_fill {Z : World} {q : Nat} {o0 o1 o2 o3 o4 o5 o6 o7 o8 o9 o10 o11 : Value} (kind who num : Int) (e : En) (h : Blk Z q TAct #[o0, o1, o2, o3, o4, o5, o6, o7, o8, o9, o10, o11]) : Blk (World.setCell (World.setCell (World.setCell (World.setCell (World.setCell (World.setCell (World.setCell (World.setCell (World.setCell (World.setCell (World.setCell (World.setCell Z ⟨q, 0, none⟩ (.int .i64 kind)) ⟨q, 1, none⟩ (.int .i64 who)) ⟨q, 2, none⟩ (.int .i64 num)) ⟨q, 3, none⟩ (.int .i64 e.kind)) ⟨q, 4, none⟩ (.int .i64 e.tick)) ⟨q, 5, none⟩ (.int .i64 e.tenant)) ⟨q, 6, none⟩ (.int .i64 e.cell)) ⟨q, 7, none⟩ (.int .i64 e.other)) ⟨q, 8, none⟩ (.int .i64 e.epoch)) ⟨q, 9, none⟩ (.int .i64 e.from_)) ⟨q, 10, none⟩ (.int .i64 e.until_)) ⟨q, 11, none⟩ (.int .i64 e.n)) q TAct #[.int .i64 kind, .int .i64 who, .int .i64 num, .int .i64 e.kind, .int .i64 e.tick, .int .i64 e.tenant, .int .i64 e.cell, .int .i64 e.other, .int .i64 e.epoch, .int .i64 e.from_, .int .i64 e.until_, .int .i64 e.n] := by
  refine Blk.conv (Blk.set_ (Blk.set_ (Blk.set_ (Blk.set_ (Blk.set_ (Blk.set_ (Blk.set_ (Blk.set_ (Blk.set_ (Blk.set_ (Blk.set_ (Blk.set_ h 0 (.int .i64 kind)) 1 (.int .i64 who)) 2 (.int .i64 num)) 3 (.int .i64 e.kind)) 4 (.int .i64 e.tick)) 5 (.int .i64 e.tenant)) 6 (.int .i64 e.cell)) 7 (.int .i64 e.other)) 8 (.int .i64 e.epoch)) 9 (.int .i64 e.from_)) 10 (.int .i64 e.until_)) 11 (.int .i64 e.n)) ?_
  simp only [List.setIfInBounds_toArray, List.set_cons_zero, List.set_cons_succ]
theorem act_fill_fr {w Z : World} {q : Nat} (kind who num : Int) (e : En) (h : Fr No w Z) (hq : w.heap.size ≤ q) : Fr No w (World.setCell (World.setCell (World.setCell (World.setCell (World.setCell (World.setCell (World.setCell (World.setCell (World.setCell (World.setCell (World.setCell (World.setCell Z ⟨q, 0, none⟩ (.int .i64 kind)) ⟨q, 1, none⟩ (.int .i64 who)) ⟨q, 2, none⟩ (.int .i64 num)) ⟨q, 3, none⟩ (.int .i64 e.kind)) ⟨q, 4, none⟩ (.int .i64 e.tick)) ⟨q, 5, none⟩ (.int .i64 e.tenant)) ⟨q, 6, none⟩ (.int .i64 e.cell)) ⟨q, 7, none⟩ (.int .i64 e.other)) ⟨q, 8, none⟩ (.int .i64 e.epoch)) ⟨q, 9, none⟩ (.int .i64 e.from_)) ⟨q, 10, none⟩ (.int .i64 e.until_)) ⟨q, 11, none⟩ (.int .i64 e.n)) := Fr.setCell (Fr.setCell (Fr.setCell (Fr.setCell (Fr.setCell (Fr.setCell (Fr.setCell (Fr.setCell (Fr.setCell (Fr.setCell (Fr.setCell (Fr.setCell h (p := ⟨q, 0, none⟩) (.inr hq) (.int .i64 kind)) (p := ⟨q, 1, none⟩) (.inr hq) (.int .i64 who)) (p := ⟨q, 2, none⟩) (.inr hq) (.int .i64 num)) (p := ⟨q, 3, none⟩) (.inr hq) (.int .i64 e.kind)) (p := ⟨q, 4, none⟩) (.inr hq) (.int .i64 e.tick)) (p := ⟨q, 5, none⟩) (.inr hq) (.int .i64 e.tenant)) (p := ⟨q, 6, none⟩) (.inr hq) (.int .i64 e.cell)) (p := ⟨q, 7, none⟩) (.inr hq) (.int .i64 e.other)) (p := ⟨q, 8, none⟩) (.inr hq) (.int .i64 e.epoch)) (p := ⟨q, 9, none⟩) (.inr hq) (.int .i64 e.from_)) (p := ⟨q, 10, none⟩) (.inr hq) (.int .i64 e.until_)) (p := ⟨q, 11, none⟩) (.inr hq) (.int .i64 e.n)
theorem act_fill_frF {w Z : World} {F : Nat → Prop} {q : Nat} (kind who num : Int) (e : En) (h : Fr F w Z) (hq : F q) : Fr F w (World.setCell (World.setCell (World.setCell (World.setCell (World.setCell (World.setCell (World.setCell (World.setCell (World.setCell (World.setCell (World.setCell (World.setCell Z ⟨q, 0, none⟩ (.int .i64 kind)) ⟨q, 1, none⟩ (.int .i64 who)) ⟨q, 2, none⟩ (.int .i64 num)) ⟨q, 3, none⟩ (.int .i64 e.kind)) ⟨q, 4, none⟩ (.int .i64 e.tick)) ⟨q, 5, none⟩ (.int .i64 e.tenant)) ⟨q, 6, none⟩ (.int .i64 e.cell)) ⟨q, 7, none⟩ (.int .i64 e.other)) ⟨q, 8, none⟩ (.int .i64 e.epoch)) ⟨q, 9, none⟩ (.int .i64 e.from_)) ⟨q, 10, none⟩ (.int .i64 e.until_)) ⟨q, 11, none⟩ (.int .i64 e.n)) := Fr.setCell (Fr.setCell (Fr.setCell (Fr.setCell (Fr.setCell (Fr.setCell (Fr.setCell (Fr.setCell (Fr.setCell (Fr.setCell (Fr.setCell (Fr.setCell h (p := ⟨q, 0, none⟩) (.inl hq) (.int .i64 kind)) (p := ⟨q, 1, none⟩) (.inl hq) (.int .i64 who)) (p := ⟨q, 2, none⟩) (.inl hq) (.int .i64 num)) (p := ⟨q, 3, none⟩) (.inl hq) (.int .i64 e.kind)) (p := ⟨q, 4, none⟩) (.inl hq) (.int .i64 e.tick)) (p := ⟨q, 5, none⟩) (.inl hq) (.int .i64 e.tenant)) (p := ⟨q, 6, none⟩) (.inl hq) (.int .i64 e.cell)) (p := ⟨q, 7, none⟩) (.inl hq) (.int .i64 e.other)) (p := ⟨q, 8, none⟩) (.inl hq) (.int .i64 e.epoch)) (p := ⟨q, 9, none⟩) (.inl hq) (.int .i64 e.from_)) (p := ⟨q, 10, none⟩) (.inl hq) (.int .i64 e.until_)) (p := ⟨q, 11, none⟩) (.inl hq) (.int .i64 e.n)
theorem act_results (kind who num : Int) (e : En) (g : Nat) (ts : Array Value) (W : World) (hb : Blk W g TAct #[.int .i64 kind, .int .i64 who, .int .i64 num, .int .i64 e.kind, .int .i64 e.tick, .int .i64 e.tenant, .int .i64 e.cell, .int .i64 e.other, .int .i64 e.epoch, .int .i64 e.from_, .int .i64 e.until_, .int .i64 e.n]) (h2 : ts[6]?.getD undef = .pointer (some ⟨g, 0, none⟩)) :
    (results Try.f29 ts).run Try.prog W = .ok (actV kind who num e) W := by
  obtain ⟨c0, c1, c2, c3, c4, c5, c6, c7, c8, c9, c10, c11⟩ := act_cells (kind := kind) (who := who) (num := num) (e := e) hb
  clear hb
  simp [results, actV, Try.results29, go_sem, h2, c0, c1, c2, c3, c4, c5, c6, c7, c8, c9, c10, c11]
set_option maxRecDepth 100000 in
set_option maxHeartbeats 8000000 in
theorem act_any (wh who num : Int) (n net : Nat) (h0 : 0 < n) (h5 : n ≤ 5) (hnet : net ≤ 256) (w : World) : Calls Try.prog 29 #[stepV wh who num, .int .i64 (n : Int), .int .i64 (net : Int)] w fun e w' => e = .returned (actV (stepKind wh) (who % n) (stepNum wh num net) (noteE (num % 1000))) ∧ Fr No w w' := by
  have hm1 := fun W => mod_any who n W (by omega) (by omega)
  have hm2 := fun W => mod_any wh 16 W (by omega) (by omega)
  have hm3 := fun W => mod_any num (max net 1 : Nat) W (by omega) (by omega)
  have hnt := fun W => note10_alloc num W
  unfold noteE En.v at hnt
  unfold stepV
  obtain ⟨W0, hW0⟩ : ∃ W0, W0 = (w.alloc (.cells #[.int .i64 wh, .int .i64 who, .int .i64 num] TStep)).alloc (.cells (actC 0 0 0 ⟨0, 0, 0, 0, 0, 0, 0, 0, 0⟩).toArray TAct) := ⟨_, rfl⟩
  obtain ⟨g, hg⟩ : ∃ g, g = w.heap.size := ⟨_, rfl⟩
  have hf0 : Fr No w W0 := by rw [hW0]; exact (fr_alloc _ _).alloc _
  have hb0 : Blk W0 g TStep #[.int .i64 wh, .int .i64 who, .int .i64 num] := by rw [hW0, hg]; exact (Blk.new _ _ _).fr (fr_alloc _ _) fun h => h
  have hb1 : Blk W0 (g + 1) TAct (actC 0 0 0 ⟨0, 0, 0, 0, 0, 0, 0, 0, 0⟩).toArray := by
    have := Blk.new (w.alloc (.cells #[.int .i64 wh, .int .i64 who, .int .i64 num] TStep)) TAct (actC 0 0 0 ⟨0, 0, 0, 0, 0, 0, 0, 0, 0⟩).toArray
    rw [hW0, hg]
    simpa using this
  simp only [actC] at hW0
  have hcs := fun W (hf : Fr No W0 W) => (⟨(hb0.fr hf fun h => h).cell 0, (hb0.fr hf fun h => h).cell 1, (hb0.fr hf fun h => h).cell 2⟩ : W.cell? ⟨g, 0, none⟩ = some (.int .i64 wh) ∧ W.cell? ⟨g, 1, none⟩ = some (.int .i64 who) ∧ W.cell? ⟨g, 2, none⟩ = some (.int .i64 num))
  obtain ⟨c0, c1, c2⟩ := hcs W0 (Fr.refl _ _)
  have hgl := hb0.lt
  have hgl1 := hb1.lt
  have FF := Lib.hid hf0
  have B1 := Lib.hid hb1
  clear hb0 hb1 hf0
  have HM1 := Lib.hid hm1
  have HM2 := Lib.hid hm2
  have HM3 := Lib.hid hm3
  have HNT := Lib.hid hnt
  have HW0 := Lib.hid hW0
  have HG := Lib.hid hg
  have HCS := Lib.hid hcs
  clear hm1 hm2 hm3 hnt hW0 hg hcs
  go_enter Try.func29, Try.ntmps29
  go_upto_region 1 with fail
  rw [← HW0.out, ← HG.out]
  clear HW0
  go_wp2_with fail
  refine (HM1.out _).mono ?_
  rintro e w1 ⟨rfl, rfl⟩
  go_upto_region 2 with fail
  go_cut [8] (fun x wx => ActCut W0 (who % n) num (noteE (num % 1000)) x wx)
  case first =>
    have hd := HCS.out W0.drew (Fr.refl _ _).drew
    go_region_held3 (fun V => V.cell? ⟨g, 0, none⟩ = some (.int .i64 wh) ∧ V.cell? ⟨g, 1, none⟩ = some (.int .i64 who) ∧ V.cell? ⟨g, 2, none⟩ = some (.int .i64 num)) (first | exact hd | exact HCS.out _ (by repeat (first | assumption | exact Fr.refl _ _ | refine Fr.alloc ?_ _ | refine Fr.drew ?_ | refine Fr.drewN ?_ _))) (first
      | (go_at_call 25; refine (HNT.out _).mono ?_; rintro e v1 ⟨rfl, c9, rfl⟩))
    all_goals go_wp2_with fail
    all_goals go_meet
    all_goals (first | exact actCut_a _ _ _ _ _ | exact actCut_b _ _ _ _ _)
  case rest =>
    obtain ⟨g8, rfl, h8, hb8, hf8⟩ := hcut
    have hset := Lib.hid (ActAt.kind h8 hb8 hf8)
    clear c0 c1 c2
    obtain ⟨c0, c1, c2⟩ := HCS.out wc hf8
    have y0 : wc.cell? ⟨g8, 0, none⟩ = some (.int .i64 0) := hb8.cell 0
    have z0 := hb8.frozen 0
    have hl8 := hb8.lt
    have hs8 := hf8.size
    clear hb8 hf8
    go_upto_block 0 with (go_at_call 21; refine (HM2.out _).mono ?_; rintro e w' ⟨rfl, rfl⟩)
    go_cut [] (fun wx => ActAt W0 g8 (stepKind wh) (who % n) num (noteE (num % 1000)) wx)
    case first =>
      have hcase : wh % 16 = 0 ∨ wh % 16 = 1 ∨ wh % 16 = 2 ∨ wh % 16 = 3 ∨ wh % 16 = 4 ∨ wh % 16 = 5 ∨ wh % 16 = 6 ∨ wh % 16 = 7 ∨ wh % 16 = 8 ∨ 9 ≤ wh % 16 := by omega
      have hK := Lib.hid (show stepKind wh = if wh % 16 ≤ 1 then 1 else if wh % 16 ≤ 4 then 2 else if wh % 16 = 5 then 3 else if wh % 16 = 6 then 5 else if wh % 16 = 7 then 6 else if wh % 16 = 8 then 7 else 4 from rfl)
      generalize stepKind wh = K at *
      generalize wh % 16 = M at *
      rcases hcase with rfl | rfl | rfl | rfl | rfl | rfl | rfl | rfl | rfl | hM
      case inr.inr.inr.inr.inr.inr.inr.inr.inr =>
        have k0 : (M == 0) = false := by simp; omega
        have k1 : (M == 1) = false := by simp; omega
        have k2 : (M == 2) = false := by simp; omega
        have k3 : (M == 3) = false := by simp; omega
        have k4 : (M == 4) = false := by simp; omega
        have k5 : (M == 5) = false := by simp; omega
        have k6 : (M == 6) = false := by simp; omega
        have k7 : (M == 7) = false := by simp; omega
        have k8 : (M == 8) = false := by simp; omega
        have hk : K = 4 := by
          have h := hK.out
          rw [if_neg (by omega), if_neg (by omega), if_neg (by omega), if_neg (by omega), if_neg (by omega), if_neg (by omega)] at h
          exact h
        have T9 := Lib.hid (hset.out 4)
        subst hk
        clear hM hK hset
        go_wp2_with fail
        go_meet
        exact T9.out
      all_goals
        have hk := hK.out
        simp at hk
        subst hk
        have T9 := Lib.hid hset.out
        clear hK hset
        go_wp2_with fail
        go_meet
        exact T9.out _
    case rest =>
      obtain ⟨K, hKe⟩ : ∃ K, K = stepKind wh := ⟨_, rfl⟩
      obtain ⟨NN, hNe⟩ : ∃ NN, NN = stepNum wh num net := ⟨_, rfl⟩
      have hN := (show stepNum wh num net = if stepKind wh = 4 ∨ stepKind wh = 5 ∨ stepKind wh = 6 then num % (max net 1 : Nat) else num from rfl)
      rw [← hKe, ← hNe] at hN
      rw [← hKe] at hcut
      have hA := Lib.hid hcut
      have hB := hcut.1
      have hf8 := hcut.2
      clear c0 c1 c2 y0 z0 hcut hset
      obtain ⟨c0, c1, c2⟩ := HCS.out wc hf8
      obtain ⟨y0, y1, y2, -⟩ := act_cells hB
      have z2 := hB.frozen 2
      have hgl' := Nat.lt_of_lt_of_le hgl hf8.size
      have hl8' := hB.lt
      clear hf8 hB
      replace hKe := Lib.hid hKe
      replace hNe := Lib.hid hNe
      replace hN := Lib.hid hN
      have hR := Lib.hid (B1.out)
      by_cases hK : K = 4 ∨ K = 5 ∨ K = 6
      · have hn := hN.out
        rw [if_pos hK] at hn
        have T9 := Lib.hid (hA.out.num h8 NN)
        rw [← hn] at HM3
        clear hn hN hA
        have hnet3 : net = 0 ∨ net = 1 ∨ (2 ≤ net ∧ max net 1 = net) := by omega
        rcases hnet3 with rfl | rfl | ⟨hn2, hmx⟩
        case inr.inr =>
          rw [hmx] at HM3
          have m1 : (1 : Int) < (net : Int) := by omega
          have m2 : ¬ (net : Int) < 1 := by omega
          have m3 : (1 : Int) ≤ (net : Int) := by omega
          have m4 : ¬ (net : Int) ≤ 1 := by omega
          have m5 : max (net : Int) 1 = net := by omega
          clear hmx hn2
          rcases hK with rfl | rfl | rfl
          · go_upto_region 22 with (first | (go_at_call 21; refine (HM3.out _).mono ?_; rintro e w' ⟨rfl, rfl⟩))
            have hA2 := T9.out
            clear T9
            generalize wc.setCell ⟨g8, 2, none⟩ (.int .i64 NN) = wx at *
            obtain ⟨hb9, hf9⟩ := hA2
            obtain ⟨q0, q1, q2, q3, q4, q5, q6, q7, q8, q9, q10, q11⟩ := act_cells hb9
            simp only [noteE] at q3 q4 q5 q6 q7 q8 q9 q10 q11
            have hr9 := hR.out.fr hf9 fun h => h
            obtain ⟨r0, r1, r2, r3, r4, r5, r6, r7, r8, r9, r10, r11⟩ := act_cells hr9
            have s0 := hr9.frozen 0
            have s1 := hr9.frozen 1
            have s2 := hr9.frozen 2
            have s3 := hr9.frozen 3
            have s4 := hr9.frozen 4
            have s5 := hr9.frozen 5
            have s6 := hr9.frozen 6
            have s7 := hr9.frozen 7
            have s8 := hr9.frozen 8
            have s9 := hr9.frozen 9
            have s10 := hr9.frozen 10
            have s11 := hr9.frozen 11
            have HR9 := Lib.hid hr9
            have HF9 := Lib.hid (FF.out.transNo hf9)
            have hgl9 := Nat.lt_of_lt_of_le hgl1 hf9.size
            have hl9 := hb9.lt
            clear hb9 hr9 hf9
            go_wp2_with fail
            refine bodyPost_ret (v := actV 4 (who % n) NN (noteE (num % 1000))) (act_results 4 (who % n) NN (noteE (num % 1000)) (g + 1) _ _ (act_fill 4 (who % n) NN (noteE (num % 1000)) HR9.out) rfl) rfl ?_
            exact ⟨(by rw [← hKe.out, ← hNe.out]), act_fill_fr 4 (who % n) NN (noteE (num % 1000)) HF9.out (by rw [HG.out]; exact Nat.le_succ _)⟩
          · go_upto_region 22 with (first | (go_at_call 21; refine (HM3.out _).mono ?_; rintro e w' ⟨rfl, rfl⟩))
            have hA2 := T9.out
            clear T9
            generalize wc.setCell ⟨g8, 2, none⟩ (.int .i64 NN) = wx at *
            obtain ⟨hb9, hf9⟩ := hA2
            obtain ⟨q0, q1, q2, q3, q4, q5, q6, q7, q8, q9, q10, q11⟩ := act_cells hb9
            simp only [noteE] at q3 q4 q5 q6 q7 q8 q9 q10 q11
            have hr9 := hR.out.fr hf9 fun h => h
            obtain ⟨r0, r1, r2, r3, r4, r5, r6, r7, r8, r9, r10, r11⟩ := act_cells hr9
            have s0 := hr9.frozen 0
            have s1 := hr9.frozen 1
            have s2 := hr9.frozen 2
            have s3 := hr9.frozen 3
            have s4 := hr9.frozen 4
            have s5 := hr9.frozen 5
            have s6 := hr9.frozen 6
            have s7 := hr9.frozen 7
            have s8 := hr9.frozen 8
            have s9 := hr9.frozen 9
            have s10 := hr9.frozen 10
            have s11 := hr9.frozen 11
            have HR9 := Lib.hid hr9
            have HF9 := Lib.hid (FF.out.transNo hf9)
            have hgl9 := Nat.lt_of_lt_of_le hgl1 hf9.size
            have hl9 := hb9.lt
            clear hb9 hr9 hf9
            go_wp2_with fail
            refine bodyPost_ret (v := actV 5 (who % n) NN (noteE (num % 1000))) (act_results 5 (who % n) NN (noteE (num % 1000)) (g + 1) _ _ (act_fill 5 (who % n) NN (noteE (num % 1000)) HR9.out) rfl) rfl ?_
            exact ⟨(by rw [← hKe.out, ← hNe.out]), act_fill_fr 5 (who % n) NN (noteE (num % 1000)) HF9.out (by rw [HG.out]; exact Nat.le_succ _)⟩
          · go_upto_region 22 with (first | (go_at_call 21; refine (HM3.out _).mono ?_; rintro e w' ⟨rfl, rfl⟩))
            have hA2 := T9.out
            clear T9
            generalize wc.setCell ⟨g8, 2, none⟩ (.int .i64 NN) = wx at *
            obtain ⟨hb9, hf9⟩ := hA2
            obtain ⟨q0, q1, q2, q3, q4, q5, q6, q7, q8, q9, q10, q11⟩ := act_cells hb9
            simp only [noteE] at q3 q4 q5 q6 q7 q8 q9 q10 q11
            have hr9 := hR.out.fr hf9 fun h => h
            obtain ⟨r0, r1, r2, r3, r4, r5, r6, r7, r8, r9, r10, r11⟩ := act_cells hr9
            have s0 := hr9.frozen 0
            have s1 := hr9.frozen 1
            have s2 := hr9.frozen 2
            have s3 := hr9.frozen 3
            have s4 := hr9.frozen 4
            have s5 := hr9.frozen 5
            have s6 := hr9.frozen 6
            have s7 := hr9.frozen 7
            have s8 := hr9.frozen 8
            have s9 := hr9.frozen 9
            have s10 := hr9.frozen 10
            have s11 := hr9.frozen 11
            have HR9 := Lib.hid hr9
            have HF9 := Lib.hid (FF.out.transNo hf9)
            have hgl9 := Nat.lt_of_lt_of_le hgl1 hf9.size
            have hl9 := hb9.lt
            clear hb9 hr9 hf9
            go_wp2_with fail
            refine bodyPost_ret (v := actV 6 (who % n) NN (noteE (num % 1000))) (act_results 6 (who % n) NN (noteE (num % 1000)) (g + 1) _ _ (act_fill 6 (who % n) NN (noteE (num % 1000)) HR9.out) rfl) rfl ?_
            exact ⟨(by rw [← hKe.out, ← hNe.out]), act_fill_fr 6 (who % n) NN (noteE (num % 1000)) HF9.out (by rw [HG.out]; exact Nat.le_succ _)⟩
        all_goals
          rcases hK with rfl | rfl | rfl
          · go_upto_region 22 with (first | (go_at_call 21; refine (HM3.out _).mono ?_; rintro e w' ⟨rfl, rfl⟩))
            have hA2 := T9.out
            clear T9
            generalize wc.setCell ⟨g8, 2, none⟩ (.int .i64 NN) = wx at *
            obtain ⟨hb9, hf9⟩ := hA2
            obtain ⟨q0, q1, q2, q3, q4, q5, q6, q7, q8, q9, q10, q11⟩ := act_cells hb9
            simp only [noteE] at q3 q4 q5 q6 q7 q8 q9 q10 q11
            have hr9 := hR.out.fr hf9 fun h => h
            obtain ⟨r0, r1, r2, r3, r4, r5, r6, r7, r8, r9, r10, r11⟩ := act_cells hr9
            have s0 := hr9.frozen 0
            have s1 := hr9.frozen 1
            have s2 := hr9.frozen 2
            have s3 := hr9.frozen 3
            have s4 := hr9.frozen 4
            have s5 := hr9.frozen 5
            have s6 := hr9.frozen 6
            have s7 := hr9.frozen 7
            have s8 := hr9.frozen 8
            have s9 := hr9.frozen 9
            have s10 := hr9.frozen 10
            have s11 := hr9.frozen 11
            have HR9 := Lib.hid hr9
            have HF9 := Lib.hid (FF.out.transNo hf9)
            have hgl9 := Nat.lt_of_lt_of_le hgl1 hf9.size
            have hl9 := hb9.lt
            clear hb9 hr9 hf9
            go_wp2_with fail
            refine bodyPost_ret (v := actV 4 (who % n) NN (noteE (num % 1000))) (act_results 4 (who % n) NN (noteE (num % 1000)) (g + 1) _ _ (act_fill 4 (who % n) NN (noteE (num % 1000)) HR9.out) rfl) rfl ?_
            exact ⟨(by rw [← hKe.out, ← hNe.out]), act_fill_fr 4 (who % n) NN (noteE (num % 1000)) HF9.out (by rw [HG.out]; exact Nat.le_succ _)⟩
          · go_upto_region 22 with (first | (go_at_call 21; refine (HM3.out _).mono ?_; rintro e w' ⟨rfl, rfl⟩))
            have hA2 := T9.out
            clear T9
            generalize wc.setCell ⟨g8, 2, none⟩ (.int .i64 NN) = wx at *
            obtain ⟨hb9, hf9⟩ := hA2
            obtain ⟨q0, q1, q2, q3, q4, q5, q6, q7, q8, q9, q10, q11⟩ := act_cells hb9
            simp only [noteE] at q3 q4 q5 q6 q7 q8 q9 q10 q11
            have hr9 := hR.out.fr hf9 fun h => h
            obtain ⟨r0, r1, r2, r3, r4, r5, r6, r7, r8, r9, r10, r11⟩ := act_cells hr9
            have s0 := hr9.frozen 0
            have s1 := hr9.frozen 1
            have s2 := hr9.frozen 2
            have s3 := hr9.frozen 3
            have s4 := hr9.frozen 4
            have s5 := hr9.frozen 5
            have s6 := hr9.frozen 6
            have s7 := hr9.frozen 7
            have s8 := hr9.frozen 8
            have s9 := hr9.frozen 9
            have s10 := hr9.frozen 10
            have s11 := hr9.frozen 11
            have HR9 := Lib.hid hr9
            have HF9 := Lib.hid (FF.out.transNo hf9)
            have hgl9 := Nat.lt_of_lt_of_le hgl1 hf9.size
            have hl9 := hb9.lt
            clear hb9 hr9 hf9
            go_wp2_with fail
            refine bodyPost_ret (v := actV 5 (who % n) NN (noteE (num % 1000))) (act_results 5 (who % n) NN (noteE (num % 1000)) (g + 1) _ _ (act_fill 5 (who % n) NN (noteE (num % 1000)) HR9.out) rfl) rfl ?_
            exact ⟨(by rw [← hKe.out, ← hNe.out]), act_fill_fr 5 (who % n) NN (noteE (num % 1000)) HF9.out (by rw [HG.out]; exact Nat.le_succ _)⟩
          · go_upto_region 22 with (first | (go_at_call 21; refine (HM3.out _).mono ?_; rintro e w' ⟨rfl, rfl⟩))
            have hA2 := T9.out
            clear T9
            generalize wc.setCell ⟨g8, 2, none⟩ (.int .i64 NN) = wx at *
            obtain ⟨hb9, hf9⟩ := hA2
            obtain ⟨q0, q1, q2, q3, q4, q5, q6, q7, q8, q9, q10, q11⟩ := act_cells hb9
            simp only [noteE] at q3 q4 q5 q6 q7 q8 q9 q10 q11
            have hr9 := hR.out.fr hf9 fun h => h
            obtain ⟨r0, r1, r2, r3, r4, r5, r6, r7, r8, r9, r10, r11⟩ := act_cells hr9
            have s0 := hr9.frozen 0
            have s1 := hr9.frozen 1
            have s2 := hr9.frozen 2
            have s3 := hr9.frozen 3
            have s4 := hr9.frozen 4
            have s5 := hr9.frozen 5
            have s6 := hr9.frozen 6
            have s7 := hr9.frozen 7
            have s8 := hr9.frozen 8
            have s9 := hr9.frozen 9
            have s10 := hr9.frozen 10
            have s11 := hr9.frozen 11
            have HR9 := Lib.hid hr9
            have HF9 := Lib.hid (FF.out.transNo hf9)
            have hgl9 := Nat.lt_of_lt_of_le hgl1 hf9.size
            have hl9 := hb9.lt
            clear hb9 hr9 hf9
            go_wp2_with fail
            refine bodyPost_ret (v := actV 6 (who % n) NN (noteE (num % 1000))) (act_results 6 (who % n) NN (noteE (num % 1000)) (g + 1) _ _ (act_fill 6 (who % n) NN (noteE (num % 1000)) HR9.out) rfl) rfl ?_
            exact ⟨(by rw [← hKe.out, ← hNe.out]), act_fill_fr 6 (who % n) NN (noteE (num % 1000)) HF9.out (by rw [HG.out]; exact Nat.le_succ _)⟩
      · have hn := hN.out
        rw [if_neg hK] at hn
        replace hn := Lib.hid hn
        have k4 : (K == 4) = false := by simp; omega
        have k5 : (K == 5) = false := by simp; omega
        have k6 : (K == 6) = false := by simp; omega
        have T9 := hA
        clear hK hN hA
        go_upto_region 22 with fail
        have hA2 := T9.out
        clear T9
        generalize wc = wx at *
        obtain ⟨hb9, hf9⟩ := hA2
        obtain ⟨q0, q1, q2, q3, q4, q5, q6, q7, q8, q9, q10, q11⟩ := act_cells hb9
        simp only [noteE] at q3 q4 q5 q6 q7 q8 q9 q10 q11
        have hr9 := hR.out.fr hf9 fun h => h
        obtain ⟨r0, r1, r2, r3, r4, r5, r6, r7, r8, r9, r10, r11⟩ := act_cells hr9
        have s0 := hr9.frozen 0
        have s1 := hr9.frozen 1
        have s2 := hr9.frozen 2
        have s3 := hr9.frozen 3
        have s4 := hr9.frozen 4
        have s5 := hr9.frozen 5
        have s6 := hr9.frozen 6
        have s7 := hr9.frozen 7
        have s8 := hr9.frozen 8
        have s9 := hr9.frozen 9
        have s10 := hr9.frozen 10
        have s11 := hr9.frozen 11
        have HR9 := Lib.hid hr9
        have HF9 := Lib.hid (FF.out.transNo hf9)
        have hgl9 := Nat.lt_of_lt_of_le hgl1 hf9.size
        have hl9 := hb9.lt
        clear hb9 hr9 hf9
        go_wp2_with fail
        refine bodyPost_ret (v := actV K (who % n) num (noteE (num % 1000))) (act_results K (who % n) num (noteE (num % 1000)) (g + 1) _ _ (act_fill K (who % n) num (noteE (num % 1000)) HR9.out) rfl) rfl ?_
        exact ⟨(by rw [← hKe.out, ← hNe.out, hn.out]), act_fill_fr K (who % n) num (noteE (num % 1000)) HF9.out (by rw [HG.out]; exact Nat.le_succ _)⟩
end Go.Proofs.Ytokblidfekbeeaa
