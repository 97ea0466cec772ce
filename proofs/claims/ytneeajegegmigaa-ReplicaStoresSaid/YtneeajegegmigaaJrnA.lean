/-
  The contracts of At, TermAt, setTerm, cut.
-/
import Derived.Test.YtneeajegegmigaaJrn
namespace Go.Proofs.Ytneeajegegmigaa
open Go.ChangeShapes Go.WideShapes Go.ChangeAt Go.RowKit
set_option linter.unusedVariables false

set_option maxHeartbeats 2000000 in
theorem j_at {w : World} {F : Nat → Prop} {j d : Nat} {xs : List UInt8} {k : Nat} {s : Js} (h : JAt w F j d xs k s) (i : Int) :
    Calls Try.prog 42 #[.pointer (some ⟨j, 0, none⟩), .int .i64 i] w fun e w' => e = .returned (.tuple #[(atJ s.log i).1.v, .bool (atJ s.log i).2]) ∧ Fr No w w' := by
  obtain ⟨A, c, Fd, h1, h2, h3, h4, h5, h6, h7, h8, c0, c1, c2, c3, hn⟩ := h.open_
  have hjl := h1.lt
  clear h h1 h2 h4 h5 h6 h7 h8
  by_cases h0 : i < 0
  · have ha : atJ s.log i = (lgZero, false) := by unfold atJ; rw [if_neg (by omega)]
    rw [ha]
    have t1 : decide (i < 0) = true := by simpa using h0
    clear ha hn h3
    go_enter Try.func42, Try.ntmps42
    go_wp2_with fail
    refine bodyPost_ret (v := .tuple #[.agg _, .bool false]) (by simp [results, Try.results42, go_sem]) rfl ⟨rfl, ?_⟩
    exact fr_alloc _ _
  · have t1 : decide (i < 0) = false := by simpa using h0
    obtain ⟨n, rfl⟩ : ∃ n : Nat, i = (n : Int) := ⟨i.toNat, by omega⟩
    by_cases h9 : s.log.length ≤ n
    · have ha : atJ s.log (n : Int) = (lgZero, false) := by unfold atJ; rw [if_pos (by omega), Int.toNat_natCast, List.getElem?_eq_none h9]
      rw [ha]
      have t2 : decide ((s.log.length : Int) ≤ (n : Int)) = true := by simpa using h9
      clear ha hn h3
      go_enter Try.func42, Try.ntmps42
      go_wp2_with fail
      refine bodyPost_ret (v := .tuple #[.agg _, .bool false]) (by simp [results, Try.results42, go_sem]) rfl ⟨rfl, ?_⟩
      exact fr_alloc _ _
    · obtain ⟨x, hx⟩ : ∃ x, s.log[n]? = some x := ⟨_, List.getElem?_eq_getElem (by omega)⟩
      have ha : atJ s.log (n : Int) = (x, true) := by unfold atJ; rw [if_pos (by omega), Int.toNat_natCast, hx]
      rw [ha]
      have t2 : decide ((s.log.length : Int) ≤ (n : Int)) = false := by simp; omega
      obtain ⟨b, rfl, hb, -, hc⟩ := h3.head (by omega)
      have hlt : n < s.log.length := by omega
      have e0 : w.cell? ⟨b, n * 10, none⟩ = some (.int .i64 x.term) := by rw [← Nat.add_zero (n * 10), hc _ (by rw [logV_len]; omega), logV_get s.log n 0 x hx (by omega)]; rfl
      have e1 : w.cell? ⟨b, n * 10 + 1, none⟩ = some (.int .i64 x.e.kind) := by rw [hc _ (by rw [logV_len]; omega), logV_get s.log n 1 x hx (by omega)]; rfl
      have e2 : w.cell? ⟨b, n * 10 + 2, none⟩ = some (.int .i64 x.e.tick) := by rw [hc _ (by rw [logV_len]; omega), logV_get s.log n 2 x hx (by omega)]; rfl
      have e3 : w.cell? ⟨b, n * 10 + 3, none⟩ = some (.int .i64 x.e.tenant) := by rw [hc _ (by rw [logV_len]; omega), logV_get s.log n 3 x hx (by omega)]; rfl
      have e4 : w.cell? ⟨b, n * 10 + 4, none⟩ = some (.int .i64 x.e.cell) := by rw [hc _ (by rw [logV_len]; omega), logV_get s.log n 4 x hx (by omega)]; rfl
      have e5 : w.cell? ⟨b, n * 10 + 5, none⟩ = some (.int .i64 x.e.other) := by rw [hc _ (by rw [logV_len]; omega), logV_get s.log n 5 x hx (by omega)]; rfl
      have e6 : w.cell? ⟨b, n * 10 + 6, none⟩ = some (.int .i64 x.e.epoch) := by rw [hc _ (by rw [logV_len]; omega), logV_get s.log n 6 x hx (by omega)]; rfl
      have e7 : w.cell? ⟨b, n * 10 + 7, none⟩ = some (.int .i64 x.e.from_) := by rw [hc _ (by rw [logV_len]; omega), logV_get s.log n 7 x hx (by omega)]; rfl
      have e8 : w.cell? ⟨b, n * 10 + 8, none⟩ = some (.int .i64 x.e.until_) := by rw [hc _ (by rw [logV_len]; omega), logV_get s.log n 8 x hx (by omega)]; rfl
      have e9 : w.cell? ⟨b, n * 10 + 9, none⟩ = some (.int .i64 x.e.n) := by rw [hc _ (by rw [logV_len]; omega), logV_get s.log n 9 x hx (by omega)]; rfl
      clear ha hn h3 hc h9
      have HX := Lib.hid hx
      clear hx
      go_enter Try.func42, Try.ntmps42
      go_wp2_with fail
      refine bodyPost_ret (v := .tuple #[.agg _, .bool true]) (by simp [results, Try.results42, go_sem]) rfl ⟨rfl, ?_⟩
      exact fr_alloc _ _

theorem j_termAt {w : World} {F : Nat → Prop} {j d : Nat} {xs : List UInt8} {k : Nat} {s : Js} (h : JAt w F j d xs k s) (i : Int) :
    Calls Try.prog 50 #[.pointer (some ⟨j, 0, none⟩), .int .i64 i] w fun e w' => e = .returned (.int .i64 (termAt s.log i)) ∧ Fr No w w' := by
  have hA := j_at h i
  rw [← atJ_term]
  revert hA
  generalize (atJ s.log i).1 = x
  generalize (atJ s.log i).2 = b
  intro hA
  unfold Lg.v at hA
  have HA := Lib.hid hA
  clear hA
  clear h
  go_enter Try.func50, Try.ntmps50
  go_wp2_with fail
  refine HA.out.mono ?_
  rintro e w1 ⟨rfl, f1⟩
  have F1 := Lib.hid f1
  clear f1
  go_wp2_with fail
  go_ret
  exact ⟨rfl, F1.out.alloc _⟩

section
variable {w : World} {F : Nat → Prop} {j d : Nat} {xs : List UInt8} {k : Nat} {s : Js} {v : Value} {Fd : Nat → Prop}
theorem JAt.setTV (t u : Int) (h1 : Blk w j TJ #[.pointer (some ⟨d, 0, none⟩), .int .i64 s.term, .int .i64 s.vote, v]) (h2 : F j) (h3 : OwnN w F TLg 10 v s.log.length (logV s.log)) (h4 : DiskAt w Fd d xs k) (h5 : ∀ i, Fd i → F i) (h6 : ¬ Fd j) (h7 : ∀ g, v.ownBlock = some g → ¬ Fd g) (h8 : ∀ i, F i → i < w.heap.size) :
    JTo w F j d xs k ⟨t, u, s.log⟩ ((w.setCell ⟨j, 1, none⟩ (.int .i64 t)).setCell ⟨j, 2, none⟩ (.int .i64 u)) := by
  have hf : Fr (fun i => i = j) w ((w.setCell ⟨j, 1, none⟩ (.int .i64 t)).setCell ⟨j, 2, none⟩ (.int .i64 u)) := ((Fr.refl (fun i => i = j) w).setCell (p := ⟨j, 1, none⟩) (.inl rfl) _).setCell (p := ⟨j, 2, none⟩) (.inl rfl) _
  refine ⟨F, ⟨v, Fd, (h1.set_ 1 _).set_ 2 _, h2, h3.fr' hf (h3.ne_blk h1 (by decide)), h4.fr hf (fun i hi he => h6 (he ▸ hi)), h5, h6, h7, fun i hi => Nat.lt_of_lt_of_le (h8 i hi) hf.size⟩, fun i hi => .inl hi, hf.mono fun i hi => hi ▸ h2⟩
theorem JAt.setLog {v' : Value} {l : List Lg} (h1 : Blk w j TJ #[.pointer (some ⟨d, 0, none⟩), .int .i64 s.term, .int .i64 s.vote, v]) (h2 : F j) (h3 : OwnN w F TLg 10 v' l.length (logV l)) (h4 : DiskAt w Fd d xs k) (h5 : ∀ i, Fd i → F i) (h6 : ¬ Fd j) (h7 : ∀ g, v'.ownBlock = some g → ¬ Fd g) (h8 : ∀ i, F i → i < w.heap.size) :
    JTo w F j d xs k ⟨s.term, s.vote, l⟩ (w.setCell ⟨j, 3, none⟩ v') := by
  have hf : Fr (fun i => i = j) w (w.setCell ⟨j, 3, none⟩ v') := (Fr.refl (fun i => i = j) w).setCell (p := ⟨j, 3, none⟩) (.inl rfl) _
  refine ⟨F, ⟨v', Fd, h1.set_ 3 _, h2, h3.fr' hf (h3.ne_blk h1 (by decide)), h4.fr hf (fun i hi he => h6 (he ▸ hi)), h5, h6, h7, fun i hi => Nat.lt_of_lt_of_le (h8 i hi) hf.size⟩, fun i hi => .inl hi, hf.mono fun i hi => hi ▸ h2⟩
end

set_option maxHeartbeats 4000000 in
theorem j_setTerm {w : World} {F : Nat → Prop} {j d : Nat} {xs : List UInt8} {k : Nat} {s : Js} (h : JAt w F j d xs k s) (t v : Int) :
    Calls Try.prog 59 #[.pointer (some ⟨j, 0, none⟩), .int .i64 t, .int .i64 v] w fun e w' => e = .returned (.int .i64 (setTermX s t v)) ∧ JTo w F j d xs k (setTermS s t v) w' := by
  have hself := h.self
  obtain ⟨A, c, Fd, h1, h2, h3, h4, h5, h6, h7, h8, c0, c1, c2, c3, hn⟩ := h.open_
  have hset := JAt.setTV t v h1 h2 h3 h4 h5 h6 h7 h8
  have f1 := h1.frozen 1
  have f2 := h1.frozen 2
  obtain ⟨X, hX⟩ : ∃ X, X = setTermX s t v := ⟨_, rfl⟩
  have hS : setTermS s t v = if X = 0 then ⟨t, v, s.log⟩ else s := by rw [hX]; rfl
  rw [hS, ← hX]
  unfold setTermX at hX
  clear h h1 h2 h3 h4 h5 h6 h7 h8 hn hS
  have fin0 : X = 0 → JTo w F j d xs k (if X = 0 then ⟨t, v, s.log⟩ else s) ((w.setCell ⟨j, 1, none⟩ (.int .i64 t)).setCell ⟨j, 2, none⟩ (.int .i64 v)) := fun e => by rw [if_pos e]; exact hset
  have fin1 : X ≠ 0 → JTo w F j d xs k (if X = 0 then ⟨t, v, s.log⟩ else s) w := fun e => by rw [if_neg e]; exact hself
  clear hself hset
  obtain ⟨S, hSS⟩ : ∃ S : Js, S = if X = 0 then ⟨t, v, s.log⟩ else s := ⟨_, rfl⟩
  rw [← hSS] at fin0 fin1 ⊢
  clear hSS
  obtain ⟨st, hst⟩ : ∃ st, st = s.term := ⟨_, rfl⟩
  obtain ⟨sv, hsv⟩ : ∃ sv, sv = s.vote := ⟨_, rfl⟩
  rw [← hst] at c1 hX
  rw [← hsv] at c2 hX
  clear hst hsv
  have FIN0 := Lib.hid fin0
  have FIN1 := Lib.hid fin1
  clear fin0 fin1
  by_cases g1 : t < 0
  · rw [if_pos (.inl g1)] at hX
    have t1 : decide (t < 0) = true := by simpa using g1
    subst hX
    go_enter Try.func59, Try.ntmps59
    go_wp2_with fail
    go_ret
    exact ⟨rfl, FIN1.out (by decide)⟩
  have t1 : decide (t < 0) = false := by simpa using g1
  by_cases g2 : 1073741824 < t
  · rw [if_pos (.inr (.inl g2))] at hX
    have t2 : decide (1073741824 < t) = true := by simpa using g2
    subst hX
    go_enter Try.func59, Try.ntmps59
    go_wp2_with fail
    go_ret
    exact ⟨rfl, FIN1.out (by decide)⟩
  have t2 : decide (1073741824 < t) = false := by simpa using g2
  by_cases g3 : v < -1
  · rw [if_pos (.inr (.inr (.inl g3)))] at hX
    have t3 : decide (v < -1) = true := by simpa using g3
    subst hX
    go_enter Try.func59, Try.ntmps59
    go_wp2_with fail
    go_ret
    exact ⟨rfl, FIN1.out (by decide)⟩
  have t3 : decide (v < -1) = false := by simpa using g3
  by_cases g4 : 5 ≤ v
  · rw [if_pos (.inr (.inr (.inr g4)))] at hX
    have t4 : decide (5 ≤ v) = true := by simpa using g4
    subst hX
    go_enter Try.func59, Try.ntmps59
    go_wp2_with fail
    go_ret
    exact ⟨rfl, FIN1.out (by decide)⟩
  have t4 : decide (5 ≤ v) = false := by simpa using g4
  rw [if_neg (by omega)] at hX
  clear g1 g2 g3 g4
  by_cases g5 : t < st
  · rw [if_pos (.inl g5)] at hX
    have t5 : decide (t < st) = true := by simpa using g5
    subst hX
    go_enter Try.func59, Try.ntmps59
    go_wp2_with fail
    go_ret
    exact ⟨rfl, FIN1.out (by decide)⟩
  have t5 : decide (t < st) = false := by simpa using g5
  by_cases g6 : t = st
  · have t6 : (t == st) = true := by simpa using g6
    by_cases g7 : sv = -1
    · rw [if_neg (by omega)] at hX
      have t7 : (sv != -1) = false := by simpa using g7
      subst hX
      clear g5 g6 g7
      go_enter Try.func59, Try.ntmps59
      go_wp2_with fail
      go_ret
      exact ⟨rfl, FIN0.out (by trivial)⟩
    · have t7 : (sv != -1) = true := by simpa using g7
      by_cases g8 : sv = v
      · rw [if_neg (by omega)] at hX
        have t8 : (sv != v) = false := by simpa using g8
        subst hX
        clear g5 g6 g7 g8
        go_enter Try.func59, Try.ntmps59
        go_wp2_with fail
        go_ret
        exact ⟨rfl, FIN0.out (by trivial)⟩
      · rw [if_pos (.inr ⟨g6, g7, g8⟩)] at hX
        have t8 : (sv != v) = true := by simpa using g8
        subst hX
        clear g5 g6 g7 g8
        go_enter Try.func59, Try.ntmps59
        go_wp2_with fail
        go_ret
        exact ⟨rfl, FIN1.out (by decide)⟩
  · rw [if_neg (by omega)] at hX
    have t6 : (t == st) = false := by simpa using g6
    subst hX
    clear g5 g6
    go_enter Try.func59, Try.ntmps59
    go_wp2_with fail
    go_ret
    exact ⟨rfl, FIN0.out (by trivial)⟩

set_option maxHeartbeats 4000000 in
theorem j_cut {w : World} {F : Nat → Prop} {j d : Nat} {xs : List UInt8} {k : Nat} {s : Js} (h : JAt w F j d xs k s) (n : Int) :
    Calls Try.prog 66 #[.pointer (some ⟨j, 0, none⟩), .int .i64 n] w fun e w' => e = .returned (.int .i64 (cutX s n)) ∧ JTo w F j d xs k (cutS s n) w' := by
  have hself := h.self
  obtain ⟨A, c, Fd, h1, h2, h3, h4, h5, h6, h7, h8, c0, c1, c2, c3, hn⟩ := h.open_
  have f3 := h1.frozen 3
  have hcap := h3.cap
  by_cases g1 : n < 0
  · have hx : cutX s n = 1 := by unfold cutX; rw [if_pos (.inl g1)]
    have hy : cutS s n = s := by unfold cutS; rw [hx]; rfl
    rw [hx, hy]
    have t1 : decide (n < 0) = true := by simpa using g1
    clear h h1 h2 h3 h4 h5 h6 h7 h8 hn hx hy
    have HSELF := Lib.hid hself
    clear hself
    go_enter Try.func66, Try.ntmps66
    go_wp2_with fail
    go_ret
    exact ⟨rfl, HSELF.out⟩
  · have t1 : decide (n < 0) = false := by simpa using g1
    by_cases g2 : (s.log.length : Int) < n
    · have hx : cutX s n = 1 := by unfold cutX; rw [if_pos (.inr g2)]
      have hy : cutS s n = s := by unfold cutS; rw [hx]; rfl
      rw [hx, hy]
      have t2 : decide ((s.log.length : Int) < n) = true := by simpa using g2
      clear h h1 h2 h3 h4 h5 h6 h7 h8 hn hx hy
      have HSELF := Lib.hid hself
      clear hself
      go_enter Try.func66, Try.ntmps66
      go_wp2_with fail
      go_ret
      exact ⟨rfl, HSELF.out⟩
    · obtain ⟨m, rfl⟩ : ∃ m : Nat, n = (m : Int) := ⟨n.toNat, by omega⟩
      have hx : cutX s (m : Int) = 0 := by unfold cutX; rw [if_neg (by omega)]
      have hy : cutS s (m : Int) = ⟨s.term, s.vote, s.log.take m⟩ := by unfold cutS; rw [hx, if_pos rfl, Int.toNat_natCast]
      rw [hx, hy]
      have t2 : decide ((s.log.length : Int) < (m : Int)) = false := by simp; omega
      have hml : m ≤ s.log.length := by omega
      have h3c := h3.cut hml
      rw [logV_take] at h3c
      have hfin := JAt.setLog (l := s.log.take m) (v' := .slice A m c) h1 h2 (by rw [List.length_take, Nat.min_eq_left hml]; exact h3c) h4 h5 h6 (fun g hg => h7 g (by rcases A with _ | a <;> exact hg)) h8
      have hmc : m ≤ c := by omega
      clear h h1 h2 h3 h4 h5 h6 h7 h8 hx hy hself h3c
      have HFIN := Lib.hid hfin
      clear hfin
      go_enter Try.func66, Try.ntmps66
      go_wp2_with fail
      go_ret
      exact ⟨rfl, HFIN.out⟩
end Go.Proofs.Ytneeajegegmigaa
