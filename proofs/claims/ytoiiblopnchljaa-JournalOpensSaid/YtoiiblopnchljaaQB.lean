/-
  Several texts in one: RJrnA, RJrnB, RJrnC, RJrnD.
-/
import Derived.Test.YtoiiblopnchljaaRJrn
import Derived.Test.YtoiiblopnchljaaFrmR
import Derived.Test.YtoiiblopnchljaaWirRef
import Derived.Test.YtoiiblopnchljaaQA
import Derived.Test.YtoiiblopnchljaaEntRt
import Derived.Deep.RegionLaw
import Derived.IntWalk
import Derived.Test.YtoiiblopnchljaaEntB
/- The contract of setTerm of the reference's journal. -/
namespace Go.Proofs.Ytoiiblopnchljaa
open Go.ChangeShapes Go.WideShapes Go.ChangeAt Go.RowKit
set_option linter.unusedVariables false

set_option maxHeartbeats 4000000 in
theorem rj_setTerm {w : World} {F : Nat → Prop} {j d : Nat} {xs : List UInt8} {k : Nat} {s : Js} (h : RJAt w F j d xs k s) (t v : Int) :
    Calls Try.prog 55 #[.pointer (some ⟨j, 0, none⟩), .int .i64 t, .int .i64 v] w fun e w' => e = .returned (.int .i64 (setTermX s t v)) ∧ RJTo w F j d xs k (setTermS s t v) w' := by
  have hself := h.self
  obtain ⟨A, c, Fd, h1, h2, h3, h4, h5, h6, h7, h8, c0, c1, c2, c3, hn⟩ := h.open_
  have hset := RJAt.setTV t v h1 h2 h3 h4 h5 h6 h7 h8
  have f1 := h1.frozen 1
  have f2 := h1.frozen 2
  obtain ⟨X, hX⟩ : ∃ X, X = setTermX s t v := ⟨_, rfl⟩
  have hS : setTermS s t v = if X = 0 then ⟨t, v, s.log⟩ else s := by rw [hX]; rfl
  rw [hS, ← hX]
  unfold setTermX at hX
  clear h h1 h2 h3 h4 h5 h6 h7 h8 hn hS
  have fin0 : X = 0 → RJTo w F j d xs k (if X = 0 then ⟨t, v, s.log⟩ else s) ((w.setCell ⟨j, 1, none⟩ (.int .i64 t)).setCell ⟨j, 2, none⟩ (.int .i64 v)) := fun e => by rw [if_pos e]; exact hset
  have fin1 : X ≠ 0 → RJTo w F j d xs k (if X = 0 then ⟨t, v, s.log⟩ else s) w := fun e => by rw [if_neg e]; exact hself
  clear hself hset
  obtain ⟨S, hSS⟩ : ∃ S : Js, S = if X = 0 then ⟨t, v, s.log⟩ else s := ⟨_, rfl⟩
  rw [← hSS] at fin0 fin1 ⊢
  clear hSS
  obtain ⟨st, hst⟩ : ∃ st, st = s.term := ⟨_, rfl⟩
  obtain ⟨sv, hsv⟩ : ∃ sv, sv = s.vote := ⟨_, rfl⟩
  rw [← hst] at c1 hX
  rw [← hsv] at c2 hX
  clear hst hsv
  have FIN0 := Lib.hid fin0
  have FIN1 := Lib.hid fin1
  clear fin0 fin1
  by_cases g1 : t < 0
  · rw [if_pos (.inl g1)] at hX
    have t1 : decide (t < 0) = true := by simpa using g1
    subst hX
    go_enter Try.func55, Try.ntmps55
    go_wp2_with fail
    go_ret
    exact ⟨rfl, FIN1.out (by decide)⟩
  have t1 : decide (t < 0) = false := by simpa using g1
  by_cases g2 : 1073741824 < t
  · rw [if_pos (.inr (.inl g2))] at hX
    have t2 : decide (1073741824 < t) = true := by simpa using g2
    subst hX
    go_enter Try.func55, Try.ntmps55
    go_wp2_with fail
    go_ret
    exact ⟨rfl, FIN1.out (by decide)⟩
  have t2 : decide (1073741824 < t) = false := by simpa using g2
  by_cases g3 : v < -1
  · rw [if_pos (.inr (.inr (.inl g3)))] at hX
    have t3 : decide (v < -1) = true := by simpa using g3
    subst hX
    go_enter Try.func55, Try.ntmps55
    go_wp2_with fail
    go_ret
    exact ⟨rfl, FIN1.out (by decide)⟩
  have t3 : decide (v < -1) = false := by simpa using g3
  by_cases g4 : 5 ≤ v
  · rw [if_pos (.inr (.inr (.inr g4)))] at hX
    have t4 : decide (5 ≤ v) = true := by simpa using g4
    subst hX
    go_enter Try.func55, Try.ntmps55
    go_wp2_with fail
    go_ret
    exact ⟨rfl, FIN1.out (by decide)⟩
  have t4 : decide (5 ≤ v) = false := by simpa using g4
  rw [if_neg (by omega)] at hX
  clear g1 g2 g3 g4
  by_cases g5 : t < st
  · rw [if_pos (.inl g5)] at hX
    have t5 : decide (t < st) = true := by simpa using g5
    subst hX
    go_enter Try.func55, Try.ntmps55
    go_wp2_with fail
    go_ret
    exact ⟨rfl, FIN1.out (by decide)⟩
  have t5 : decide (t < st) = false := by simpa using g5
  by_cases g6 : t = st
  · have t6 : (t == st) = true := by simpa using g6
    by_cases g7 : sv = -1
    · rw [if_neg (by omega)] at hX
      have t7 : (sv != -1) = false := by simpa using g7
      subst hX
      clear g5 g6 g7
      go_enter Try.func55, Try.ntmps55
      go_wp2_with fail
      go_ret
      exact ⟨rfl, FIN0.out (by trivial)⟩
    · have t7 : (sv != -1) = true := by simpa using g7
      by_cases g8 : sv = v
      · rw [if_neg (by omega)] at hX
        have t8 : (sv != v) = false := by simpa using g8
        subst hX
        clear g5 g6 g7 g8
        go_enter Try.func55, Try.ntmps55
        go_wp2_with fail
        go_ret
        exact ⟨rfl, FIN0.out (by trivial)⟩
      · rw [if_pos (.inr ⟨g6, g7, g8⟩)] at hX
        have t8 : (sv != v) = true := by simpa using g8
        subst hX
        clear g5 g6 g7 g8
        go_enter Try.func55, Try.ntmps55
        go_wp2_with fail
        go_ret
        exact ⟨rfl, FIN1.out (by decide)⟩
  · rw [if_neg (by omega)] at hX
    have t6 : (t == st) = false := by simpa using g6
    subst hX
    clear g5 g6
    go_enter Try.func55, Try.ntmps55
    go_wp2_with fail
    go_ret
    exact ⟨rfl, FIN0.out (by trivial)⟩

end Go.Proofs.Ytoiiblopnchljaa
/- The contracts of cut, put, SetTerm, Cut and Sync of the reference's journal. -/
namespace Go.Proofs.Ytoiiblopnchljaa
open Go.ChangeShapes Go.WideShapes Go.ChangeAt Go.RowKit
set_option linter.unusedVariables false

theorem OwnN.made (w : World) (e : TypeId) (size : Nat) : OwnN (w.alloc (.cells #[] e)) (fun i => w.heap.size ≤ i) e size (.slice (some ⟨w.heap.size, 0, none⟩) 0 0) 0 [] :=
  ⟨World.ownsRow_made w #[] 0 (Nat.zero_le _) (Nat.zero_le _) (by simp), fun g hg => by simp [Value.ownBlock] at hg; omega⟩
theorem OwnN.appendedNew {w w' : World} {B : Nat} {e : TypeId} {size n : Nat} {v : Value} {xs : List Value} (h : OwnN w (fun i => B ≤ i) e size v n xs) (hB : B ≤ w.heap.size) {news : List Value} {m : Nat} {v' : Value} (ha : AppendedN w 0 e size v n xs news m v' w') :
    OwnN w' (fun i => B ≤ i) e size v' (n + m) (xs ++ news) ∧ Fr (fun i => B ≤ i) w w' := by
  obtain ⟨h1, h2⟩ := h.appended ha
  exact ⟨h1.mono fun i hi => by rcases hi with hi | hi <;> omega, h2⟩

/-- The log was replaced by a new row. -/
theorem RJAt.newLog {w w2 : World} {F : Nat → Prop} {j d : Nat} {xs : List UInt8} {k : Nat} {s : Js} {v v' : Value} {Fd : Nat → Prop} {l : List Lg} (h1 : Blk w j TRJ #[.pointer (some ⟨d, 0, none⟩), .int .i64 s.term, .int .i64 s.vote, v]) (h2 : F j) (h4 : DskAt TRDisk w Fd d xs k) (h5 : ∀ i, Fd i → F i) (h6 : ¬ Fd j) (h8 : ∀ i, F i → i < w.heap.size)
    (hf : Fr No w w2) (ho : OwnN w2 (fun i => w.heap.size ≤ i) TLg 10 v' l.length (logV l)) : RJTo w F j d xs k ⟨s.term, s.vote, l⟩ (w2.setCell ⟨j, 3, none⟩ v') := by
  have hs := hf.size
  have hjt := RJAt.setLog (F := fun i => F i ∨ (w.heap.size ≤ i ∧ i < w2.heap.size)) (s := s) (v' := v') (l := l) (h1.fr hf (fun h => h)) (.inl h2) ⟨ho.1, fun g hg => .inr ⟨ho.2 g hg, ho.lt g hg⟩⟩ (h4.frNo hf) (fun i hi => .inl (h5 i hi)) h6 (fun g hg h => by
    have h9 := ho.2 g hg
    have h10 := h8 g (h5 g h)
    simp only at h9
    omega) (fun i hi => by
      rcases hi with hi | hi
      · exact Nat.lt_of_lt_of_le (h8 i hi) hs
      · exact hi.2)
  obtain ⟨F', g1, g2, g3⟩ := hjt
  refine ⟨F', g1, fun i hi => ?_, (hf.mono (G := F) fun _ hi => hi.elim).trans g3 fun i hi => ?_⟩
  · rcases g2 i hi with (h | h) | h
    · exact .inl h
    · exact .inr h.1
    · exact .inr (Nat.le_trans hs h)
  · rcases hi with h | h
    · exact .inl h
    · exact .inr h.1

set_option maxHeartbeats 4000000 in
theorem rj_cut {w : World} {F : Nat → Prop} {j d : Nat} {xs : List UInt8} {k : Nat} {s : Js} (h : RJAt w F j d xs k s) (hlen : s.log.length ≤ 4096) (n : Int) :
    Calls Try.prog 60 #[.pointer (some ⟨j, 0, none⟩), .int .i64 n] w fun e w' => e = .returned (.int .i64 (cutX s n)) ∧ RJTo w F j d xs k (cutS s n) w' := by
  have hself := h.self
  obtain ⟨A, c, Fd, h1, h2, h3, h4, h5, h6, h7, h8, c0, c1, c2, c3, hn⟩ := h.open_
  have f3 := h1.frozen 3
  have hcap := h3.cap
  by_cases g1 : n < 0
  · have hx : cutX s n = 1 := by unfold cutX; rw [if_pos (.inl g1)]
    have hy : cutS s n = s := by unfold cutS; rw [hx]; rfl
    rw [hx, hy]
    have t1 : decide (n < 0) = true := by simpa using g1
    clear h h1 h2 h3 h4 h5 h6 h7 h8 hn hx hy
    have HSELF := Lib.hid hself
    clear hself
    go_enter Try.func60, Try.ntmps60
    go_wp2_with fail
    go_ret
    exact ⟨rfl, HSELF.out⟩
  · have t1 : decide (n < 0) = false := by simpa using g1
    by_cases g2 : (s.log.length : Int) < n
    · have hx : cutX s n = 1 := by unfold cutX; rw [if_pos (.inr g2)]
      have hy : cutS s n = s := by unfold cutS; rw [hx]; rfl
      rw [hx, hy]
      have t2 : decide ((s.log.length : Int) < n) = true := by simpa using g2
      clear h h1 h2 h3 h4 h5 h6 h7 h8 hn hx hy
      have HSELF := Lib.hid hself
      clear hself
      go_enter Try.func60, Try.ntmps60
      go_wp2_with fail
      go_ret
      exact ⟨rfl, HSELF.out⟩
    · obtain ⟨m, rfl⟩ : ∃ m : Nat, n = (m : Int) := ⟨n.toNat, by omega⟩
      have hx : cutX s (m : Int) = 0 := by unfold cutX; rw [if_neg (by omega)]
      have hy : cutS s (m : Int) = ⟨s.term, s.vote, s.log.take m⟩ := by unfold cutS; rw [hx, if_pos rfl, Int.toNat_natCast]
      rw [hx, hy]
      have t2 : decide ((s.log.length : Int) < (m : Int)) = false := by simp; omega
      have hml : m ≤ s.log.length := by omega
      have h3c := h3.cut hml
      rw [logV_take] at h3c
      obtain ⟨i0, hi0, hz0, hz1, hz2⟩ := info_parts log_info
      have hjl := h1.lt
      have htl : (s.log.take m).length = m := by rw [List.length_take, Nat.min_eq_left hml]
      have hfin := fun w2 v' (hf : Fr No w w2) (ho : OwnN w2 (fun i => w.heap.size ≤ i) TLg 10 v' m (logV (s.log.take m))) => RJAt.newLog (l := s.log.take m) (v' := v') h1 h2 h4 h5 h6 h8 hf (by rw [htl]; exact ho)
      have hcel := fun w2 (hf : Fr No w w2) => let g := h1.fr hf (fun h => h); (⟨g.cell 3, g.frozen 3, g.lt⟩ : w2.cell? ⟨j, 3, none⟩ = some (.slice A s.log.length c) ∧ w2.frozen? ⟨j, 3, none⟩ = false ∧ j < w2.heap.size)
      have hrd := h3c.rd
      have hone := logV_one (s.log.take m)
      have hll := logV_len (s.log.take m)
      rw [htl] at hll
      have hnn : A = none → m = 0 := fun h => by have := hn h; omega
      have hmc : m ≤ c := by omega
      generalize s.log.take m = lt at *
      clear h h1 h2 h3 h4 h5 h6 h7 h8 hx hy hself h3c htl hn
      have HFIN := Lib.hid hfin
      have HCEL := Lib.hid hcel
      have HRD := Lib.hid hrd
      have HONE := Lib.hid hone
      have HLL := Lib.hid hll
      have HNN := Lib.hid hnn
      clear hfin hcel hrd hone hll hnn
      go_enter Try.func60, Try.ntmps60
      go_wp2_with (at_builtin; refine wpList_append_rdN _ rfl (.tmp 17) (.tmp 23) _ rfl 0 TLg i0 _ 10 80 Try.underlying24 hi0 hz0 hz1 hz2 rfl (by decide) (.slice (some ⟨w.heap.size, 0, none⟩) 0 0) 0 [] rfl (OwnN.made w TLg 10).1 w.heap.size A m c (logV lt) rfl ?c1 ?c2 ?c3 HONE.out ?c4 ?c5 (Nat.zero_le _) ?_)
      case c1 => exact HNN.out
      case c2 => exact HRD.out.frNo (fr_alloc _ _) (Nat.le_refl _)
      case c3 => exact HLL.out
      case c4 => unfold maxLen; omega
      case c5 => omega
      intro v1 w1 happ
      obtain ⟨o1, f1⟩ := (OwnN.made w TLg 10).appendedNew (by simp) happ
      rw [List.nil_append, Nat.zero_add] at o1
      obtain ⟨A1, c1', rfl, hn1⟩ := o1.form
      have F1 := (fr_alloc w (.cells #[] TLg)).transNew f1 fun i hi => hi
      obtain ⟨x3, y3, z3⟩ := HCEL.out _ F1
      have HF := Lib.hid (HFIN.out _ _ F1 o1)
      clear happ hn1 f1 F1 o1 c3 f3
      go_wp2_with fail
      go_ret
      exact ⟨rfl, HF.out⟩

set_option maxHeartbeats 2000000 in
theorem rj_put {w : World} {F : Nat → Prop} {j d : Nat} {xs : List UInt8} {k : Nat} {s : Js} (h : RJAt w F j d xs k s) (A : Option Addr) (m c : Nat) (r : List UInt8) (B : Nat) (hA : A = none → m = 0) (hr : Rd w B A (r.map bv)) (hm : r.length = m) (hB : B ≤ w.heap.size) (hm2 : m ≤ 65536) (hsz : xs.length + 18 + m ≤ 140737488355328) :
    Calls Try.prog 56 #[.pointer (some ⟨j, 0, none⟩), .slice A m c] w fun e w' => e = .returned (.tuple #[]) ∧ RJTo w F j d (xs ++ putN 8 r) k s w' := by
  obtain ⟨A1, c1, Fd, h1, h2, h3, h4, h5, h6, h7, h8, d0, d1, d2, d3, hn⟩ := h.open_
  have hjl := h1.lt
  have hpl := putN_lenP 8 r (by omega)
  have hput := fun V (hf : Fr No w V) => rput_short none 0 0 8 A m c [] r V B (fun _ => rfl) rfl (.inl rfl) hA hm (hr.frNo hf hB) (Nat.le_trans hB hf.size) (by omega) hm2
  simp only [List.nil_append] at hput
  have hdsk := fun V (hf : Fr No w V) A2 c2 B2 (h : Own V (fun i => B2 ≤ i) 5 (.slice A2 (putN 8 r).length c2) ((putN 8 r).map bv)) => rdisk_append V Fd d xs k (h4.frNo hf) A2 (putN 8 r).length c2 (putN 8 r) V.heap.size h.len.2 h.rd (Nat.le_refl _) rfl (by omega)
  have hfin := fun V V' (hf : Fr No w V) (hd : DskTo TRDisk V Fd d (xs ++ putN 8 r) k V') => RJAt.disk (h1.fr hf (fun h => h)) h2 (h3.frNo hf) h5 h6 h7 (fun i hi => Nat.lt_of_lt_of_le (h8 i hi) hf.size) hd
  have hcell := fun V V' (hf : Fr No w V) (hd : DskTo TRDisk V Fd d (xs ++ putN 8 r) k V') => (((h1.fr hf (fun h => h)).fr (let ⟨_, _, _, g⟩ := hd; g : Fr Fd V V') h6).cell 0 : V'.cell? ⟨j, 0, none⟩ = some (.pointer (some ⟨d, 0, none⟩)))
  have hcel0 := fun V (hf : Fr No w V) => ((h1.fr hf (fun h => h)).cell 0 : V.cell? ⟨j, 0, none⟩ = some (.pointer (some ⟨d, 0, none⟩)))
  clear h h1 h2 h3 h4 h5 h6 h7 h8 hn d1 d2 d3
  generalize putN 8 r = R at *
  have HPUT := Lib.hid hput
  have HDSK := Lib.hid hdsk
  have HFIN := Lib.hid hfin
  have HCELL := Lib.hid hcell
  have HCEL0 := Lib.hid hcel0
  clear hput hdsk hfin hcell hcel0
  go_enter Try.func56, Try.ntmps56
  go_wp2_with fail
  go_region_held3 (fun V => V.cell? ⟨j, 0, none⟩ = some (.pointer (some ⟨d, 0, none⟩))) (first | exact q2 | exact q1 | exact d0) (first
    | (go_at_call 80; refine (HPUT.out _ (Fr.refl No w).drew).mono ?_; rintro e w5 ⟨A5, c5, rfl, o5, f5⟩; have FF := Lib.hid ((Fr.refl No w).drew.transNo f5); have q1 := HCEL0.out _ FF.out; have O5 := Lib.hid o5; clear o5 f5)
    | (go_at_call 63; refine (HDSK.out _ FF.out _ _ _ O5.out).mono ?_; rintro e w6 ⟨rfl, d6⟩; have q2 := HCELL.out _ _ FF.out d6; have D6 := Lib.hid (RJTo.after FF.out (HFIN.out _ _ FF.out d6)); clear d6))
  go_wp2_with fail
  go_end0
  exact ⟨rfl, D6.out⟩

theorem rj_sync {w : World} {F : Nat → Prop} {j d : Nat} {xs : List UInt8} {k : Nat} {s : Js} (h : RJAt w F j d xs k s) :
    Calls Try.prog 53 #[.pointer (some ⟨j, 0, none⟩)] w fun e w' => e = .returned (.tuple #[]) ∧ RJTo w F j d xs xs.length s w' := by
  obtain ⟨A1, c1, Fd, h1, h2, h3, h4, h5, h6, h7, h8, d0, d1, d2, d3, hn⟩ := h.open_
  have hfin := fun V' (hd : DskTo TRDisk w Fd d xs xs.length V') => RJAt.disk h1 h2 h3 h5 h6 h7 h8 hd
  have hsy := rdisk_sync w Fd d xs k h4
  clear h h1 h2 h3 h4 h5 h6 h7 h8 hn d1 d2 d3
  have HFIN := Lib.hid hfin
  have HSY := Lib.hid hsy
  clear hfin hsy
  go_enter Try.func53, Try.ntmps53
  go_wp2_with fail
  refine HSY.out.mono ?_
  rintro e w1 ⟨rfl, d1⟩
  have D1 := Lib.hid (HFIN.out _ d1)
  clear d1
  go_wp2_with fail
  go_end0
  exact ⟨rfl, D1.out⟩

/-- The bytes of one more integer. -/
theorem rint_more (A : Option Addr) (c : Nat) (k : Int) (l : List UInt8) (w : World) (hA : A = none → l.length = 0) (hr : Rd w w.heap.size A (l.map bv)) (hk1 : -9223372036854775808 ≤ k) (hk2 : k ≤ 9223372036854775807) (hsz : l.length ≤ 225000000000000) :
    Calls Try.prog 57 #[.slice A l.length c, .int .i64 k] w fun e w' => ∃ A' c' l', l' = l ++ encN (codeN k) ∧ e = .returned (.slice A' l'.length c') ∧ (A' = none → l'.length = 0) ∧ Rd w' w'.heap.size A' (l'.map bv) ∧ Own w' (fun i => w.heap.size ≤ i) 5 (.slice A' l'.length c') (l'.map bv) ∧ Fr No w w' := by
  refine (rint_any A l.length c k l w w.heap.size hA rfl hr (Nat.le_refl _) hk1 hk2 hsz).mono ?_
  rintro e w' ⟨A', c', rfl, o, f⟩
  rw [← List.length_append] at o
  exact ⟨A', c', _, rfl, by rw [List.length_append], o.len.2, o.rd, o, f⟩

set_option maxHeartbeats 2000000 in
theorem rj_SetTerm {w : World} {F : Nat → Prop} {j d : Nat} {xs : List UInt8} {k : Nat} {s : Js} (h : RJAt w F j d xs k s) (t v : Int) (hsz : xs.length + 100 ≤ 140737488355328) :
    Calls Try.prog 28 #[.pointer (some ⟨j, 0, none⟩), .int .i64 t, .int .i64 v] w fun e w' => e = .returned (.int .i64 (setTermX s t v)) ∧ RJTo w F j d (if setTermX s t v = 0 then xs ++ putN 8 (recT t v) else xs) k (setTermS s t v) w' := by
  have hset := rj_setTerm h t v
  have hbd := fun hx => setX_bd (s := s) (t := t) (v := v) hx
  revert hset hbd
  generalize setTermX s t v = X
  generalize setTermS s t v = S
  intro hset hbd
  clear h
  obtain ⟨Y, hY⟩ : ∃ Y, Y = if X = 0 then xs ++ putN 8 (recT t v) else xs := ⟨_, rfl⟩
  rw [← hY]
  have HSET := Lib.hid hset
  have HY := Lib.hid hY
  clear hset hY
  go_enter Try.func28, Try.ntmps28
  go_wp2_with fail
  refine HSET.out.mono ?_
  rintro e w1 ⟨rfl, j1⟩
  clear HSET
  by_cases hx : X = 0
  · subst hx
    have hb := hbd rfl
    obtain ⟨F1, a1, i1, f1⟩ := j1
    have b1 := encN_len10 _ (codeN_lt 1 (by omega) (by omega))
    have b2 := encN_len10 _ (codeN_lt t (by omega) (by omega))
    have b3 := encN_len10 _ (codeN_lt v (by omega) (by omega))
    have hy : Y = xs ++ putN 8 ((([] ++ encN (codeN 1)) ++ encN (codeN t)) ++ encN (codeN v)) := by rw [HY.out, if_pos rfl]; simp [recT, intsF_cons, intsF_nil]
    clear hbd HY
    have A1 := Lib.hid a1
    have I1 := Lib.hid i1
    have F1 := Lib.hid f1
    have HY := Lib.hid hy
    clear a1 i1 f1 hy
    go_wp2_with fail
    refine (rint_more none 0 1 [] w1 (fun _ => rfl) (.inl rfl) (by omega) (by omega) (by decide)).mono ?_
    rintro e w2 ⟨A2, c2, l2, hl2, rfl, n2, r2, -, f2⟩
    have g2 : l2.length ≤ 10 := by rw [hl2]; simpa using b1
    have F2 := Lib.hid f2
    have N2 := Lib.hid n2
    have R2 := Lib.hid r2
    have HL2 := Lib.hid hl2
    clear n2 r2 hl2
    clear f2
    go_wp2_with fail
    refine (rint_more A2 c2 t l2 w2 N2.out R2.out (by omega) (by omega) (by omega)).mono ?_
    rintro e w3 ⟨A3, c3, l3, hl3, rfl, n3, r3, -, f3⟩
    have g3 : l3.length ≤ 20 := by rw [hl3, List.length_append]; omega
    have F3 := Lib.hid (F2.out.transNo f3)
    have N3 := Lib.hid n3
    have R3 := Lib.hid r3
    have HL3 := Lib.hid hl3
    clear n3 r3 hl3
    clear f3 N2 R2
    go_wp2_with fail
    refine (rint_more A3 c3 v l3 w3 N3.out R3.out (by omega) (by omega) (by omega)).mono ?_
    rintro e w4 ⟨A4, c4, l4, hl4, rfl, n4, r4, -, f4⟩
    have g4 : l4.length ≤ 30 := by rw [hl4, List.length_append]; omega
    have F4 := Lib.hid (F3.out.transNo f4)
    have hy : Y = xs ++ putN 8 l4 := by rw [HY.out, ← HL2.out, ← HL3.out, ← hl4]
    clear HY hl4 HL2 HL3 F2 F3
    have N4 := Lib.hid n4
    have R4 := Lib.hid r4
    have HY := Lib.hid hy
    clear n4 r4 hy
    clear f4 N3 R3
    go_wp2_with fail
    refine (rj_put (A1.out.frNo F4.out) A4 _ c4 l4 w4.heap.size N4.out R4.out rfl (Nat.le_refl _) (by omega) (by omega)).mono ?_
    rintro e w5 ⟨rfl, j3⟩
    have J3 := Lib.hid (RJTo.after F4.out j3)
    clear j3
    go_wp2_with fail
    go_ret
    refine ⟨rfl, ?_⟩
    rw [HY.out]
    exact RJTo.then F1.out I1.out J3.out
  · have b1 : (X == 0) = false := by simpa using hx
    have b2 : (X != 0) = true := by simpa using hx
    have hy : Y = xs := by rw [HY.out, if_neg hx]
    clear hbd HY
    have J1 := Lib.hid j1
    have HX := Lib.hid hx
    have HY := Lib.hid hy
    clear j1 hx hy
    go_wp2_with fail
    go_ret
    exact ⟨rfl, by rw [HY.out]; exact J1.out⟩

set_option maxHeartbeats 2000000 in
theorem rj_Cut {w : World} {F : Nat → Prop} {j d : Nat} {xs : List UInt8} {k : Nat} {s : Js} (h : RJAt w F j d xs k s) (n : Int) (hlen : s.log.length ≤ 4096) (hsz : xs.length + 100 ≤ 140737488355328) :
    Calls Try.prog 30 #[.pointer (some ⟨j, 0, none⟩), .int .i64 n] w fun e w' => e = .returned (.int .i64 (cutX s n)) ∧ RJTo w F j d (if cutX s n = 0 then xs ++ putN 8 (recC n) else xs) k (cutS s n) w' := by
  have hset := rj_cut h hlen n
  have hbd := fun hx => cutX_bd (s := s) (n := n) hx
  revert hset hbd
  generalize cutX s n = X
  generalize cutS s n = S
  intro hset hbd
  clear h
  obtain ⟨Y, hY⟩ : ∃ Y, Y = if X = 0 then xs ++ putN 8 (recC n) else xs := ⟨_, rfl⟩
  rw [← hY]
  have HSET := Lib.hid hset
  have HY := Lib.hid hY
  clear hset hY
  go_enter Try.func30, Try.ntmps30
  go_wp2_with fail
  refine HSET.out.mono ?_
  rintro e w1 ⟨rfl, j1⟩
  clear HSET
  by_cases hx : X = 0
  · subst hx
    have hb := hbd rfl
    obtain ⟨F1, a1, i1, f1⟩ := j1
    have b1 := encN_len10 _ (codeN_lt 3 (by omega) (by omega))
    have b2 := encN_len10 _ (codeN_lt n (by omega) (by omega))
    have hy : Y = xs ++ putN 8 (([] ++ encN (codeN 3)) ++ encN (codeN n)) := by rw [HY.out, if_pos rfl]; simp [recC, intsF_cons, intsF_nil]
    clear hbd HY
    have A1 := Lib.hid a1
    have I1 := Lib.hid i1
    have F1 := Lib.hid f1
    have HY := Lib.hid hy
    clear a1 i1 f1 hy
    go_wp2_with fail
    refine (rint_more none 0 3 [] w1 (fun _ => rfl) (.inl rfl) (by omega) (by omega) (by decide)).mono ?_
    rintro e w2 ⟨A2, c2, l2, hl2, rfl, n2, r2, -, f2⟩
    have g2 : l2.length ≤ 10 := by rw [hl2]; simpa using b1
    have F2 := Lib.hid f2
    have N2 := Lib.hid n2
    have R2 := Lib.hid r2
    have HL2 := Lib.hid hl2
    clear n2 r2 hl2
    clear f2
    go_wp2_with fail
    refine (rint_more A2 c2 n l2 w2 N2.out R2.out (by omega) (by omega) (by omega)).mono ?_
    rintro e w4 ⟨A4, c4, l4, hl4, rfl, n4, r4, -, f4⟩
    have g4 : l4.length ≤ 20 := by rw [hl4, List.length_append]; omega
    have F4 := Lib.hid (F2.out.transNo f4)
    have hy : Y = xs ++ putN 8 l4 := by rw [HY.out, ← HL2.out, ← hl4]
    clear HY hl4 HL2 F2
    have N4 := Lib.hid n4
    have R4 := Lib.hid r4
    have HY := Lib.hid hy
    clear n4 r4 hy
    clear f4 N2 R2
    go_wp2_with fail
    refine (rj_put (A1.out.frNo F4.out) A4 _ c4 l4 w4.heap.size N4.out R4.out rfl (Nat.le_refl _) (by omega) (by omega)).mono ?_
    rintro e w5 ⟨rfl, j3⟩
    have J3 := Lib.hid (RJTo.after F4.out j3)
    clear j3
    go_wp2_with fail
    go_ret
    refine ⟨rfl, ?_⟩
    rw [HY.out]
    exact RJTo.then F1.out I1.out J3.out
  · have b1 : (X == 0) = false := by simpa using hx
    have b2 : (X != 0) = true := by simpa using hx
    have hy : Y = xs := by rw [HY.out, if_neg hx]
    clear hbd HY
    have J1 := Lib.hid j1
    have HX := Lib.hid hx
    have HY := Lib.hid hy
    clear j1 hx hy
    go_wp2_with fail
    go_ret
    exact ⟨rfl, by rw [HY.out]; exact J1.out⟩
end Go.Proofs.Ytoiiblopnchljaa
/- The contracts of Last and add of the reference's journal. -/
namespace Go.Proofs.Ytoiiblopnchljaa
open Go.ChangeShapes Go.WideShapes Go.ChangeAt Go.RowKit
set_option linter.unusedVariables false

theorem own0 {W : World} {b : Nat} {e : TypeId} {size : Nat} (hbk : Blk W b e #[]) : OwnN W (fun i => i = b) e size (.slice (some ⟨b, 0, none⟩) 0 0) 0 [] :=
  ⟨⟨by simp, .inr ⟨b, 0, #[], rfl, Nat.zero_le _, hbk, Nat.le_refl _, Nat.zero_le _, by simp, by simp⟩⟩, fun g hg => by simp [Value.ownBlock] at hg; exact hg.symm⟩
theorem OwnN.app1 {w W w1 : World} {b : Nat} {e : TypeId} {size : Nat} {xs : List Value} {m : Nat} {v1 : Value} (hf : Fr No w W) (hb : w.heap.size ≤ b) (hbk : Blk W b e #[]) (happ : AppendedN W 0 e size (.slice (some ⟨b, 0, none⟩) 0 0) 0 [] xs m v1 w1) :
    OwnN w1 (fun i => w.heap.size ≤ i) e size v1 m xs ∧ Fr (fun i => i = b) W w1 ∧ Fr No w w1 := by
  obtain ⟨h1, h2⟩ := (own0 hbk).appended happ
  rw [List.nil_append, Nat.zero_add] at h1
  have hs := hf.size
  exact ⟨h1.mono fun i hi => by rcases hi with hi | hi <;> omega, h2, hf.transNew h2 fun i hi => by omega⟩
theorem rd_blk {V : World} {b : Nat} {t : TypeId} {cs : Array Value} (h : Blk V b t cs) : Rd V V.heap.size (some ⟨b, 0, none⟩) cs.toList := by
  refine .inr ⟨_, 0, rfl, h.lt, fun j hj => ?_⟩
  rw [h.cell, Nat.zero_add]
  simp at hj
  simp [Array.getElem?_eq_getElem hj]

theorem rj_last {w : World} {F : Nat → Prop} {j d : Nat} {xs : List UInt8} {k : Nat} {s : Js} (h : RJAt w F j d xs k s) (hlen : s.log.length ≤ 4096) :
    Calls Try.prog 83 #[.pointer (some ⟨j, 0, none⟩)] w fun e w' => e = .returned (.int .i64 (termAt s.log ((s.log.length : Int) - 1))) ∧ Fr No w w' := by
  obtain ⟨A, c, Fd, h1, h2, h3, h4, h5, h6, h7, h8, c0, c1, c2, c3, hn⟩ := h.open_
  have hT := rj_termAt h ((s.log.length : Int) - 1)
  have hwr : IntKind.i64.wrap ((s.log.length : Int) - 1) = (s.log.length : Int) - 1 := IntWalk.i64_in _ (by omega)
  clear h h1 h2 h3 h4 h5 h6 h7 h8 hn
  generalize termAt s.log ((s.log.length : Int) - 1) = lt at *
  have HT := Lib.hid hT
  clear hT
  go_enter Try.func83, Try.ntmps83
  go_wp2_with fail
  refine HT.out.mono ?_
  rintro e w1 ⟨rfl, f1⟩
  have F1 := Lib.hid f1
  clear f1
  go_wp2_with fail
  go_ret
  exact ⟨rfl, F1.out⟩

set_option maxRecDepth 100000 in
set_option maxHeartbeats 8000000 in
theorem rj_add {w : World} {F : Nat → Prop} {j d : Nat} {xs : List UInt8} {k : Nat} {s : Js} (h : RJAt w F j d xs k s) (hlen : s.log.length ≤ 4096) (t : Int) (e : En) :
    Calls Try.prog 58 #[.pointer (some ⟨j, 0, none⟩), .int .i64 t, e.v] w fun r w' => r = .returned (.int .i64 (addX s t e)) ∧ RJTo w F j d xs k (addS s t e) w' := by
  obtain ⟨i0, hi0, hz0, hz1, hz2⟩ := info_parts log_info
  have hsh := fun V => rShape_any e V
  obtain ⟨X, hX⟩ : ∃ X, X = addX s t e := ⟨_, rfl⟩
  have hS : addS s t e = if X = 0 then ⟨s.term, s.vote, s.log ++ [⟨t, e⟩]⟩ else s := by rw [hX]; rfl
  rw [hS, ← hX]
  unfold addX at hX
  revert hsh hX
  generalize shapeB e = b
  intro hsh hX
  clear hS
  obtain ⟨k0, tick, te, ce, ot, ep, fr, un, n⟩ := e
  unfold En.v at *
  have hstill := fun w' (hf : Fr No w w') => h.still hf
  have hta := fun w' (hf : Fr No w w') => rj_last (h.frNo hf) (by omega)
  obtain ⟨A, c, Fd, h1, h2, h3, h4, h5, h6, h7, h8, d0, d1, d2, d3, hn⟩ := h.open_
  have hjl := h1.lt
  have hcap := h3.cap
  have hput := fun w2 v' (hf : Fr No w w2) (ho : OwnN w2 (fun i => w.heap.size ≤ i) TLg 10 v' (s.log.length + 1) (logV s.log ++ Lg.cells ⟨t, ⟨k0, tick, te, ce, ot, ep, fr, un, n⟩⟩)) => RJAt.newLog (v' := v') (l := s.log ++ [⟨t, ⟨k0, tick, te, ce, ot, ep, fr, un, n⟩⟩]) h1 h2 h4 h5 h6 h8 hf (by rw [List.length_append, logV_snoc]; exact ho)
  have hcel := fun w2 (hf : Fr No w w2) => let g := h1.fr hf (fun h => h); (⟨g.cell 3, g.frozen 3⟩ : w2.cell? ⟨j, 3, none⟩ = some (.slice A s.log.length c) ∧ w2.frozen? ⟨j, 3, none⟩ = false)
  have hrd := h3.rd
  have hone := logV_one s.log
  have hll := logV_len s.log
  have hnn := hn
  have BB := Lib.hid (Blk.new w TEnt #[.int .i64 k0, .int .i64 tick, .int .i64 te, .int .i64 ce, .int .i64 ot, .int .i64 ep, .int .i64 fr, .int .i64 un, .int .i64 n])
  have FF := Lib.hid (fr_alloc w (.cells #[.int .i64 k0, .int .i64 tick, .int .i64 te, .int .i64 ce, .int .i64 ot, .int .i64 ep, .int .i64 fr, .int .i64 un, .int .i64 n] TEnt))
  obtain ⟨c0, c1, c2, c3, c4, c5, c6, c7, c8⟩ := ent_cells BB.out
  have hwr : IntKind.i64.wrap ((s.log.length : Int) - 1) = (s.log.length : Int) - 1 := IntWalk.i64_in _ (by omega)
  clear h h2 h3 h4 h5 h6 h7 h8 hn
  generalize termAt s.log ((s.log.length : Int) - 1) = lt at *
  have HSH := Lib.hid hsh
  have HSTILL := Lib.hid hstill
  have HTA := Lib.hid hta
  have HPUT := Lib.hid hput
  have HCEL := Lib.hid hcel
  have H1 := Lib.hid h1
  have HRD := Lib.hid hrd
  have HONE := Lib.hid hone
  have HLL := Lib.hid hll
  have HNN := Lib.hid hnn
  clear hsh hstill hta hput hcel h1 hrd hone hll hnn
  by_cases g1 : t < 1
  · rw [if_pos (.inl g1)] at hX
    have t1 : decide (t < 1) = true := by simpa using g1
    subst hX
    go_enter Try.func58, Try.ntmps58
    go_wp2_with fail
    go_ret
    exact ⟨rfl, HSTILL.out _ FF.out⟩
  have t1 : decide (t < 1) = false := by simpa using g1
  by_cases g2 : 1073741824 < t
  · rw [if_pos (.inr (.inl g2))] at hX
    have t2 : decide (1073741824 < t) = true := by simpa using g2
    subst hX
    go_enter Try.func58, Try.ntmps58
    go_wp2_with fail
    go_ret
    exact ⟨rfl, HSTILL.out _ FF.out⟩
  have t2 : decide (1073741824 < t) = false := by simpa using g2
  have HX := Lib.hid hX
  clear hX
  go_enter Try.func58, Try.ntmps58
  go_wp2_with fail
  refine (HSH.out _).mono ?_
  rintro r w5 ⟨rfl, f5⟩
  replace FF := Lib.hid (FF.out.transNo f5)
  replace BB := Lib.hid (BB.out.fr f5 (fun h => h))
  clear f5 c0 c1 c2 c3 c4 c5 c6 c7 c8 d0 d1 d2 d3
  obtain ⟨c0, c1, c2, c3, c4, c5, c6, c7, c8⟩ := ent_cells BB.out
  have hb5 := H1.out.fr FF.out (fun h => h)
  have d1 : w5.cell? ⟨j, 1, none⟩ = some (.int .i64 s.term) := hb5.cell 1
  have d3 : w5.cell? ⟨j, 3, none⟩ = some (.slice A s.log.length c) := hb5.cell 3
  have hjl5 := hb5.lt
  clear hb5
  cases b
  · have hX := HX.out
    rw [if_pos (.inr (.inr rfl))] at hX
    subst hX
    clear HX
    go_wp2_with fail
    go_ret
    exact ⟨rfl, HSTILL.out _ FF.out⟩
  have hX := HX.out
  rw [if_neg (by simp; omega)] at hX
  clear HX
  by_cases g3 : s.term < t
  · rw [if_pos (.inl g3)] at hX
    have t3 : decide (s.term < t) = true := by simpa using g3
    subst hX
    go_wp2_with fail
    go_ret
    exact ⟨rfl, HSTILL.out _ FF.out⟩
  have t3 : decide (s.term < t) = false := by simpa using g3
  have HX := Lib.hid hX
  clear hX
  go_wp2_with fail
  refine (HTA.out _ FF.out).mono ?_
  rintro r w6 ⟨rfl, f6⟩
  replace FF := Lib.hid (FF.out.transNo f6)
  replace BB := Lib.hid (BB.out.fr f6 (fun h => h))
  clear f6 c0 c1 c2 c3 c4 c5 c6 c7 c8 d1 d3 hjl5
  obtain ⟨c0, c1, c2, c3, c4, c5, c6, c7, c8⟩ := ent_cells BB.out
  have hb5 := H1.out.fr FF.out (fun h => h)
  have d3 : w6.cell? ⟨j, 3, none⟩ = some (.slice A s.log.length c) := hb5.cell 3
  have q3 := hb5.frozen 3
  have hjl6 := hb5.lt
  have hel := BB.out.lt
  clear hb5
  have hX := HX.out
  clear HX
  by_cases g4 : t < lt
  · rw [if_pos (.inr g4)] at hX
    have t4 : decide (t < lt) = true := by simpa using g4
    subst hX
    go_wp2_with fail
    go_ret
    exact ⟨rfl, HSTILL.out _ FF.out⟩
  have t4 : decide (t < lt) = false := by simpa using g4
  rw [if_neg (by omega)] at hX
  by_cases g5 : 4096 ≤ s.log.length
  · rw [if_pos g5] at hX
    have t5 : decide ((4096 : Int) ≤ (s.log.length : Int)) = true := by simp; omega
    subst hX
    go_wp2_with fail
    go_ret
    exact ⟨rfl, HSTILL.out _ FF.out⟩
  have t5 : decide ((4096 : Int) ≤ (s.log.length : Int)) = false := by simp; omega
  rw [if_neg g5] at hX
  subst hX
  have hcap2 : s.log.length ≤ 4096 := by omega
  have hek : ∀ V, Fr No w6 V → V.cell? ⟨w.heap.size, 0, none⟩ = some (.int .i64 k0) ∧ V.cell? ⟨w.heap.size, 1, none⟩ = some (.int .i64 tick) ∧ V.cell? ⟨w.heap.size, 2, none⟩ = some (.int .i64 te) ∧ V.cell? ⟨w.heap.size, 3, none⟩ = some (.int .i64 ce) ∧ V.cell? ⟨w.heap.size, 4, none⟩ = some (.int .i64 ot) ∧ V.cell? ⟨w.heap.size, 5, none⟩ = some (.int .i64 ep) ∧ V.cell? ⟨w.heap.size, 6, none⟩ = some (.int .i64 fr) ∧ V.cell? ⟨w.heap.size, 7, none⟩ = some (.int .i64 un) ∧ V.cell? ⟨w.heap.size, 8, none⟩ = some (.int .i64 n) := fun V hV => let g := BB.out.fr hV (fun h => h); ⟨g.cell 0, g.cell 1, g.cell 2, g.cell 3, g.cell 4, g.cell 5, g.cell 6, g.cell 7, g.cell 8⟩
  have hs6 : w.heap.size ≤ w6.heap.size := FF.out.size
  have hke := fun V (hf : Fr No w6 V) => (hek V hf)
  have hbj : Blk w6 j TRJ #[.pointer (some ⟨d, 0, none⟩), .int .i64 s.term, .int .i64 s.vote, .slice A s.log.length c] := H1.out.fr FF.out (fun h => h)
  have hset : ∀ V v', Fr No w6 V → Fr (fun i => i = j) w6 (V.setCell ⟨j, 3, none⟩ v') := fun V v' hV => Fr.setCell (F := fun i => i = j) (hV.mono fun _ h => h.elim) (p := ⟨j, 3, none⟩) (.inl rfl) _
  have hjn : w.heap.size ≠ j := by omega
  have hes : ∀ V, Fr (fun i => i = j) w6 V → V.cell? ⟨w.heap.size, 0, none⟩ = some (.int .i64 k0) ∧ V.cell? ⟨w.heap.size, 1, none⟩ = some (.int .i64 tick) ∧ V.cell? ⟨w.heap.size, 2, none⟩ = some (.int .i64 te) ∧ V.cell? ⟨w.heap.size, 3, none⟩ = some (.int .i64 ce) ∧ V.cell? ⟨w.heap.size, 4, none⟩ = some (.int .i64 ot) ∧ V.cell? ⟨w.heap.size, 5, none⟩ = some (.int .i64 ep) ∧ V.cell? ⟨w.heap.size, 6, none⟩ = some (.int .i64 fr) ∧ V.cell? ⟨w.heap.size, 7, none⟩ = some (.int .i64 un) ∧ V.cell? ⟨w.heap.size, 8, none⟩ = some (.int .i64 n) := fun V hV => let g := BB.out.fr hV hjn; ⟨g.cell 0, g.cell 1, g.cell 2, g.cell 3, g.cell 4, g.cell 5, g.cell 6, g.cell 7, g.cell 8⟩
  clear hke hbj hek
  have HES := Lib.hid hes
  have HSET := Lib.hid hset
  clear hes hset
  go_wp2_with fail
  go_region_law
    (first
    | (refine step_append_rdN _ (by rfl) (.tmp 40) (.tmp 44) _ (by rfl) 0 TLg i0 _ 10 80 Try.underlying24 hi0 hz0 hz1 hz2 rfl (by decide) (.slice (some ⟨_, 0, none⟩) 0 0) 0 [] (by rfl) (own0 (by first | (refine blk_new' _ _ _ _ ?_; simp; done) | exact Blk.fr (F := No) (Blk.new w6 TLg #[]) (by repeat (first | exact Fr.refl _ _ | refine Fr.alloc ?_ _ | refine Fr.drew ?_)) (fun h => h) | exact Blk.fr (F := No) (blk_new' (w6.alloc (.cells #[.int .i64 t, .int .i64 k0, .int .i64 tick, .int .i64 te, .int .i64 ce, .int .i64 ot, .int .i64 ep, .int .i64 fr, .int .i64 un, .int .i64 n] TLg)) (w6.heap.size + 1) TLg #[] (by simp)) (by repeat (first | exact Fr.refl _ _ | refine Fr.alloc ?_ _ | refine Fr.drew ?_)) (fun h => h))).1 w.heap.size A s.log.length c (logV s.log) (by rfl) HNN.out (HRD.out.frNo (FF.out.transNo (by repeat (first | assumption | exact Fr.refl _ _ | refine Fr.alloc ?_ _ | refine Fr.drew ?_))) (Nat.le_refl _)) HLL.out HONE.out (by unfold maxLen; omega) (by omega) (Nat.zero_le _) ?_; intro v1 w1 happ; obtain ⟨o1, f1b, f1⟩ := OwnN.app1 (w := w6) (by repeat (first | assumption | exact Fr.refl _ _ | refine Fr.alloc ?_ _ | refine Fr.drew ?_)) (by simp) (by first | (refine blk_new' _ _ _ _ ?_; simp; done) | exact Blk.fr (F := No) (Blk.new w6 TLg #[]) (by repeat (first | exact Fr.refl _ _ | refine Fr.alloc ?_ _ | refine Fr.drew ?_)) (fun h => h) | exact Blk.fr (F := No) (blk_new' (w6.alloc (.cells #[.int .i64 t, .int .i64 k0, .int .i64 tick, .int .i64 te, .int .i64 ce, .int .i64 ot, .int .i64 ep, .int .i64 fr, .int .i64 un, .int .i64 n] TLg)) (w6.heap.size + 1) TLg #[] (by simp)) (by repeat (first | exact Fr.refl _ _ | refine Fr.alloc ?_ _ | refine Fr.drew ?_)) (fun h => h)) happ; obtain ⟨A4, c4, rfl, n4⟩ := o1.form; have O1 := Lib.hid o1; have F1B := Lib.hid f1b; obtain ⟨e0, e1, e2, e3, e4, e5, e6, e7, e8⟩ := HES.out _ (Fr.mono (F := No) f1 fun _ h => h.elim); have hl1 := f1.size; clear n4 happ o1 f1b)
    | (refine step_append_rdN _ (by rfl) (.tmp 45) (.tmp 49) _ (by rfl) 0 TLg i0 _ 10 80 Try.underlying24 hi0 hz0 hz1 hz2 rfl (by decide) (.slice A4 s.log.length c4) s.log.length (logV s.log) (by rfl) (O1.out.frNo (by repeat (first | exact Fr.refl _ _ | refine Fr.alloc ?_ _ | refine Fr.drew ?_))).1 _ (some ⟨_, 0, none⟩) 1 1 (Lg.cells ⟨t, ⟨k0, tick, te, ce, ot, ep, fr, un, n⟩⟩) (by rfl) (fun h => by cases h) (rd_blk (by first | (refine blk_new' _ _ _ _ ?_; simp; done) | exact Blk.fr (Blk.fr (F := No) (blk_new' (w6.alloc (.cells #[] TLg)) (w6.heap.size + 1) TLg #[.int .i64 t, .int .i64 k0, .int .i64 tick, .int .i64 te, .int .i64 ce, .int .i64 ot, .int .i64 ep, .int .i64 fr, .int .i64 un, .int .i64 n] (by simp)) (by repeat (first | exact Fr.refl _ _ | refine Fr.alloc ?_ _ | refine Fr.drew ?_)) (fun h => h)) F1B.out (by simp) | exact Blk.fr (Blk.fr (F := No) (Blk.new w6 TLg #[.int .i64 t, .int .i64 k0, .int .i64 tick, .int .i64 te, .int .i64 ce, .int .i64 ot, .int .i64 ep, .int .i64 fr, .int .i64 un, .int .i64 n]) (by repeat (first | exact Fr.refl _ _ | refine Fr.alloc ?_ _ | refine Fr.drew ?_)) (fun h => h)) F1B.out (by simp))) rfl (by simp [Lg.cells, Value.oneCell']) (by unfold maxLen; omega) (by omega) (Nat.zero_le _) ?_; intro v2 w2 happ; obtain ⟨o2, f2⟩ := (O1.out.frNo (by repeat (first | exact Fr.refl _ _ | refine Fr.alloc ?_ _ | refine Fr.drew ?_))).appendedNew (B := w6.heap.size) (Fr.size (F := No) (by repeat (first | assumption | exact Fr.refl _ _ | refine Fr.alloc ?_ _ | refine Fr.drew ?_))) happ; have f3 : Fr No w6 w2 := Fr.transNew (by repeat (first | assumption | exact Fr.refl _ _ | refine Fr.alloc ?_ _ | refine Fr.drew ?_)) f2 (fun _ hi => hi); obtain ⟨A5, c5, rfl, n5⟩ := o2.form; obtain ⟨x3, y3⟩ := HCEL.out _ (FF.out.transNo f3); have HJT := Lib.hid (HPUT.out _ _ (FF.out.transNo f3) (o2.mono fun i hi => Nat.le_trans hs6 hi)); clear happ o2 f2 n5))
  all_goals
    go_wp2_with fail
    go_ret
    exact ⟨rfl, HJT.out⟩
end Go.Proofs.Ytoiiblopnchljaa
/- The contract of Append of the reference's journal. -/
namespace Go.Proofs.Ytoiiblopnchljaa
open Go.ChangeShapes Go.WideShapes Go.ChangeAt Go.RowKit
set_option linter.unusedVariables false

set_option maxRecDepth 100000 in
set_option maxHeartbeats 4000000 in
theorem rj_Append {w : World} {F : Nat → Prop} {j d : Nat} {xs : List UInt8} {k : Nat} {s : Js} (h : RJAt w F j d xs k s) (hlen : s.log.length ≤ 4096) (t : Int) (e : En) (he : e.ok) (hsz : xs.length + 200 ≤ 140737488355328) :
    Calls Try.prog 29 #[.pointer (some ⟨j, 0, none⟩), .int .i64 t, e.v] w fun r w' => r = .returned (.int .i64 (addX s t e)) ∧ RJTo w F j d (if addX s t e = 0 then xs ++ putN 8 (recE t e) else xs) k (addS s t e) w' := by
  obtain ⟨i0, hi0, hz0, hz1, hz2⟩ := info_parts bytes_info
  have hadd := fun W (hf : Fr No w W) => rj_add (h.frNo hf) hlen t e
  have hbd := fun hx => addX_bd (s := s) (t := t) (e := e) hx
  have hlt := h.lt
  have hby := fun V => rbytes_any e V he
  have hbl := enB_len e he
  obtain ⟨X, hX⟩ : ∃ X, X = addX s t e := ⟨_, rfl⟩
  obtain ⟨S, hS⟩ : ∃ S, S = addS s t e := ⟨_, rfl⟩
  rw [← hX] at hbd
  simp only [← hX, ← hS] at hadd
  rw [← hX, ← hS]
  clear hX hS h he
  obtain ⟨Y, hY⟩ : ∃ Y, Y = if X = 0 then xs ++ putN 8 (recE t e) else xs := ⟨_, rfl⟩
  rw [← hY]
  unfold recE at hY
  generalize enB e = EB at *
  obtain ⟨k0, tick, te, ce, ot, ep, fr, un, n⟩ := e
  unfold En.v at *
  have BB := Lib.hid (Blk.new w TEnt #[.int .i64 k0, .int .i64 tick, .int .i64 te, .int .i64 ce, .int .i64 ot, .int .i64 ep, .int .i64 fr, .int .i64 un, .int .i64 n])
  have FF := Lib.hid (fr_alloc w (.cells #[.int .i64 k0, .int .i64 tick, .int .i64 te, .int .i64 ce, .int .i64 ot, .int .i64 ep, .int .i64 fr, .int .i64 un, .int .i64 n] TEnt))
  obtain ⟨c0, c1, c2, c3, c4, c5, c6, c7, c8⟩ := ent_cells BB.out
  obtain ⟨W0, hW0⟩ : ∃ W0, W0 = w.alloc (.cells #[.int .i64 k0, .int .i64 tick, .int .i64 te, .int .i64 ce, .int .i64 ot, .int .i64 ep, .int .i64 fr, .int .i64 un, .int .i64 n] TEnt) := ⟨_, rfl⟩
  have hs0 : W0.heap.size = w.heap.size + 1 := by rw [hW0]; simp
  have HADD := Lib.hid hadd
  have HY := Lib.hid hY
  have HBY := Lib.hid hby
  have HLT := Lib.hid hlt
  clear hadd hY hby hlt
  go_enter Try.func29, Try.ntmps29
  go_wp2_with fail
  rw [← hW0] at BB FF ⊢
  refine (HADD.out _ FF.out).mono ?_
  rintro r W ⟨rfl, j1⟩
  clear HADD c0 c1 c2 c3 c4 c5 c6 c7 c8 hW0
  by_cases hx : X = 0
  · subst hx
    have hb := hbd rfl
    obtain ⟨G1, a1, i1, f1⟩ := j1
    obtain ⟨g, hg⟩ : ∃ g, g = w.heap.size := ⟨_, rfl⟩
    rw [← hg] at BB ⊢
    have hg1 : ¬ G1 g := by
      intro hh
      rcases i1 g hh with h | h
      · have := HLT.out g h
        omega
      · omega
    have hg0 : ¬ F g := by
      intro hh
      have := HLT.out g hh
      omega
    have b5 : Blk W g TEnt #[.int .i64 k0, .int .i64 tick, .int .i64 te, .int .i64 ce, .int .i64 ot, .int .i64 ep, .int .i64 fr, .int .i64 un, .int .i64 n] := BB.out.fr f1 hg0
    have b1 := encN_len10 _ (codeN_lt 2 (by omega) (by omega))
    have b2 := encN_len10 _ (codeN_lt t (by omega) (by omega))
    have hS : ∀ V, Fr G1 W V → V.cell? ⟨g, 0, none⟩ = some (.int .i64 k0) ∧ V.cell? ⟨g, 1, none⟩ = some (.int .i64 tick) ∧ V.cell? ⟨g, 2, none⟩ = some (.int .i64 te) ∧ V.cell? ⟨g, 3, none⟩ = some (.int .i64 ce) ∧ V.cell? ⟨g, 4, none⟩ = some (.int .i64 ot) ∧ V.cell? ⟨g, 5, none⟩ = some (.int .i64 ep) ∧ V.cell? ⟨g, 6, none⟩ = some (.int .i64 fr) ∧ V.cell? ⟨g, 7, none⟩ = some (.int .i64 un) ∧ V.cell? ⟨g, 8, none⟩ = some (.int .i64 n) := fun V hV => ⟨(b5.fr hV hg1).cell 0, (b5.fr hV hg1).cell 1, (b5.fr hV hg1).cell 2, (b5.fr hV hg1).cell 3, (b5.fr hV hg1).cell 4, (b5.fr hV hg1).cell 5, (b5.fr hV hg1).cell 6, (b5.fr hV hg1).cell 7, (b5.fr hV hg1).cell 8⟩
    have hy : Y = xs ++ putN 8 (([] ++ encN (codeN 2)) ++ encN (codeN t) ++ EB) := by rw [HY.out, if_pos rfl]; simp [intsF_cons, intsF_nil]
    have f2 := FF.out
    clear hbd HY BB b5 hg1 hg0 hg FF
    have A1 := Lib.hid a1
    have I1 := Lib.hid i1
    have F1 := Lib.hid f1
    have HS := Lib.hid hS
    have HY := Lib.hid hy
    have F2 := Lib.hid f2
    clear a1 i1 f1 hS hy f2
    have HSS := HS
    go_wp2_with fail
    refine wp_region_held_drew (S := fun V => V.cell? ⟨g, 0, none⟩ = some (.int .i64 k0) ∧ V.cell? ⟨g, 1, none⟩ = some (.int .i64 tick) ∧ V.cell? ⟨g, 2, none⟩ = some (.int .i64 te) ∧ V.cell? ⟨g, 3, none⟩ = some (.int .i64 ce) ∧ V.cell? ⟨g, 4, none⟩ = some (.int .i64 ot) ∧ V.cell? ⟨g, 5, none⟩ = some (.int .i64 ep) ∧ V.cell? ⟨g, 6, none⟩ = some (.int .i64 fr) ∧ V.cell? ⟨g, 7, none⟩ = some (.int .i64 un) ∧ V.cell? ⟨g, 8, none⟩ = some (.int .i64 n)) (by kernel_rfl) (HSS.out _ ((Fr.refl G1 W).drew)) (fun hHeld => ?_)
    refine wpAnyH_take (i := 0) (v := ?_) rfl (by kernel_rfl) (by kernel_rfl) (by kernel_rfl) (fun _ _ _ h => h) (Or.inl ⟨by rfl, ?_⟩) (by assumption) ?_
    rotate_left
    · (intro w hSw; (try dsimp only at hSw); go_simp) <;> with_reducible rfl
    simp only [Act.put, List.setIfInBounds_toArray, List.set_cons_zero, List.set_cons_succ, List.getElem_toArray, List.getElem_cons_zero]
    refine wpAnyH_take (i := 2) (v := ?_) rfl (by kernel_rfl) (by kernel_rfl) (by kernel_rfl) (fun _ _ _ h => h) (Or.inl ⟨by rfl, ?_⟩) (by assumption) ?_
    rotate_left
    · (intro w hSw; (try dsimp only at hSw); go_simp) <;> with_reducible rfl
    simp only [Act.put, List.setIfInBounds_toArray, List.set_cons_zero, List.set_cons_succ, List.getElem_toArray, List.getElem_cons_zero, List.getElem_cons_succ]
    refine wpAnyH_take (i := 4) (v := ?_) rfl (by kernel_rfl) (by kernel_rfl) (by kernel_rfl) (fun _ _ _ h => h) (Or.inl ⟨by rfl, ?_⟩) (by assumption) ?_
    rotate_left
    · (intro w hSw; (try dsimp only at hSw); go_simp) <;> with_reducible rfl
    simp only [Act.put, List.setIfInBounds_toArray, List.set_cons_zero, List.set_cons_succ, List.getElem_toArray, List.getElem_cons_zero, List.getElem_cons_succ]
    refine wpAnyH_ready (rs := [1]) (by kernel_rfl) (by simp) (AllReadyH.cons rfl (fun K hK => ?_) AllReadyH.nil)
    go_simp
    refine (rint_more none 0 2 [] _ (fun _ => rfl) (.inl rfl) (by omega) (by omega) (by decide)).mono ?_
    rintro e w3 ⟨A3, d3, l3, hl3, rfl, n3, r3, -, f3⟩
    have g3 : l3.length ≤ 10 := by rw [hl3]; simpa using b1
    have q3 := Lib.hid ((Fr.refl No W).drew.transNo f3)
    have N3 := Lib.hid n3
    have R3 := Lib.hid r3
    have HL3 := Lib.hid hl3
    clear f3 n3 r3 hl3
    go_wp2_with fail
    clear hHeld
    refine hK.out _ _ (HSS.out _ (q3.out.mono fun _ h => h.elim)) (fun hHeld => ?_)
    clear hK K
    try simp only [Act.put, List.setIfInBounds_toArray, List.set_cons_zero, List.set_cons_succ, List.getElem_toArray, List.getElem_cons_zero, List.getElem_cons_succ]
    refine wpAnyH_ready (rs := [3]) (by kernel_rfl) (by simp) (AllReadyH.cons rfl (fun K hK => ?_) AllReadyH.nil)
    go_simp
    refine (rint_more A3 d3 t l3 _ N3.out R3.out (by omega) (by omega) (by omega)).mono ?_
    rintro e w4 ⟨A4, d4, IN, hl4, rfl, n4, r4, o4, f4⟩
    have hIN : IN.length ≤ 20 := by rw [hl4, List.length_append]; omega
    have q4 := Lib.hid (q3.out.transNo f4)
    have O4 := Lib.hid (o4.mono (G := fun i => W.heap.size ≤ i) fun i hi => Nat.le_trans (Nat.le_trans (Nat.le_refl _) q3.out.size) hi)
    have hy : Y = xs ++ putN 8 (IN ++ EB) := by rw [HY.out, ← HL3.out, ← hl4]
    clear HY
    have HY := Lib.hid hy
    clear f4 n4 r4 o4 hl4 hy HL3 N3 R3 q3
    go_wp2_with fail
    clear hHeld
    refine hK.out _ _ (HSS.out _ (q4.out.mono fun _ h => h.elim)) (fun hHeld => ?_)
    clear hK K
    try simp only [Act.put, List.setIfInBounds_toArray, List.set_cons_zero, List.set_cons_succ, List.getElem_toArray, List.getElem_cons_zero, List.getElem_cons_succ]
    refine wpAnyH_ready (rs := [5]) (by kernel_rfl) (by simp) (AllReadyH.cons rfl (fun K hK => ?_) AllReadyH.nil)
    go_simp
    refine (HBY.out _).mono ?_
    rintro e w5 ⟨A5, d5, rfl, o5, f5⟩
    have q5 := Lib.hid (q4.out.transNo f5)
    have P4 := Lib.hid (O4.out.frNo f5)
    have O5 := Lib.hid o5
    clear o5 f5 q4 O4
    go_wp2_with fail
    clear hHeld
    refine hK.out _ _ (HSS.out _ (q5.out.mono fun _ h => h.elim)) (fun hHeld => ?_)
    clear hK K
    try simp only [Act.put, List.setIfInBounds_toArray, List.set_cons_zero, List.set_cons_succ, List.getElem_toArray, List.getElem_cons_zero, List.getElem_cons_succ]
    refine wpAnyH_ready (rs := [6]) (by kernel_rfl) (by simp) (AllReadyH.cons rfl (fun K hK => ?_) AllReadyH.nil)
    refine step_append_rd _ (by rfl) (.tmp 17) (.tmp 19) _ (by rfl) 0 5 i0 _ 1 Try.underlying52 hi0 hz0 hz1 hz2 rfl (.slice A4 IN.length d4) IN.length (IN.map bv) (by rfl) (P4.out.own (by rw [List.length_map])) w5.heap.size A5 EB.length d5 (EB.map bv) (by rfl) O5.out.len.2 O5.out.rd (by rw [List.length_map]) (bv_one _) (by unfold maxLen; omega) (by omega) (Nat.zero_le _) ?_
    intro v6 w6 happ
    obtain ⟨o6, f6⟩ := P4.out.appended (by rw [List.length_map]) (by rw [List.length_map]) happ
    rw [← List.map_append] at o6
    obtain ⟨A6, d6, rfl, n6⟩ := o6.form
    rw [List.length_map, List.length_append] at o6 ⊢
    have q6 := Lib.hid (q5.out.transNew f6 fun i hi => hi)
    have O6 := Lib.hid o6
    clear happ o6 f6 n6 P4 O5 q5 hHeld
    refine hK.out _ _ (HSS.out _ (q6.out.mono fun _ h => h.elim)) (fun hHeld => ?_)
    clear hK K
    try simp only [Act.put, List.setIfInBounds_toArray, List.set_cons_zero, List.set_cons_succ, List.getElem_toArray, List.getElem_cons_zero, List.getElem_cons_succ]
    refine wpAnyH_ready (rs := [7]) (by kernel_rfl) (by simp) (AllReadyH.cons rfl (fun K hK => ?_) AllReadyH.nil)
    go_simp
    refine (rj_put (A1.out.frNo q6.out) A6 (IN.length + EB.length) d6 (IN ++ EB) w6.heap.size O6.out.len.2 O6.out.rd List.length_append (Nat.le_refl _) (by omega) (by omega)).mono ?_
    rintro e w7 ⟨rfl, j7⟩
    have q7 : Hid (Fr G1 W w7) := Lib.hid (let ⟨_, _, _, g⟩ := RJTo.after q6.out j7; g)
    have J7 := Lib.hid (RJTo.after q6.out j7)
    clear j7
    go_wp2_with fail
    clear hHeld
    refine hK.out _ _ (HSS.out _ q7.out) (fun hHeld => ?_)
    clear hK K
    try simp only [Act.put, List.setIfInBounds_toArray, List.set_cons_zero, List.set_cons_succ, List.getElem_toArray, List.getElem_cons_zero, List.getElem_cons_succ]
    refine wpAnyH_done (by kernel_rfl) ?_ _
    go_wp2_with fail
    go_ret
    refine ⟨rfl, ?_⟩
    rw [HY.out]
    obtain ⟨F', g1, g2, g3⟩ := J7.out
    refine RJTo.after F2.out ⟨F', g1, fun i hi => (g2 i hi).elim (fun h => I1.out i h) (fun h => .inr (Nat.le_trans F1.out.size h)), F1.out.trans g3 I1.out⟩
  · have b1 : (X == 0) = false := by simpa using hx
    have b2 : (X != 0) = true := by simpa using hx
    have hy : Y = xs := by rw [HY.out, if_neg hx]
    have j2 := RJTo.after FF.out j1
    clear hbd HY j1 FF BB
    have J2 := Lib.hid j2
    have HX := Lib.hid hx
    have HY := Lib.hid hy
    clear j2 hx hy
    go_wp2_with fail
    go_ret
    exact ⟨rfl, by rw [HY.out]; exact J2.out⟩
end Go.Proofs.Ytoiiblopnchljaa
