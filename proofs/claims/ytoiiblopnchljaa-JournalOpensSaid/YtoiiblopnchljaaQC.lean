/-
  Several texts in one: RJrnP, RAll, RJrnE, RJrnF.
-/
import Derived.Test.YtoiiblopnchljaaJrnF
import Derived.Test.YtoiiblopnchljaaFrmRT
import Derived.Test.YtoiiblopnchljaaFrmT
import Derived.Test.YtoiiblopnchljaaFrmAP
import Derived.Test.YtoiiblopnchljaaSame
import Derived.Deep.QuietTactic
import Derived.Test.YtoiiblopnchljaaQB
/- The plain law of the reference's crash: the records of all frames, carried out one by one. -/
namespace Go.Proofs.Ytoiiblopnchljaa

/-- Records are carried out as long as they are right; the bytes of their frames are added up. -/
def foldR : Nat → Js → List (List UInt8) → Nat × Js
  | p, s, [] => (p, s)
  | p, s, r :: rs => match replayJ s r with
    | none => (p, s)
    | some s' => foldR (p + (putN 8 r).length) s' rs

theorem allG_acc (key : Int) (l : List UInt8) : ∀ (f p : Nat) (acc : List (List UInt8)), (allG key f l p acc).r = acc ++ (allG key f l p []).r ∧ (allG key f l p acc).k = (allG key f l p []).k := by
  intro f
  induction f with
  | zero => intro p acc; simp [allG]
  | succ f ih =>
    intro p acc
    rw [allG, allG]
    by_cases h1 : p < l.length
    · rw [if_pos h1, if_pos h1]
      by_cases h2 : (takeFr key (l.drop p)).e = 0
      · rw [if_pos h2, if_pos h2]
        obtain ⟨a1, a2⟩ := ih (p + (takeFr key (l.drop p)).k) (acc ++ [(takeFr key (l.drop p)).p])
        obtain ⟨b1, b2⟩ := ih (p + (takeFr key (l.drop p)).k) ([] ++ [(takeFr key (l.drop p)).p])
        rw [a1, a2, b1, b2]
        simp
      · rw [if_neg h2, if_neg h2]
        simp
    · rw [if_neg h1, if_neg h1]
      simp

theorem foldR_play (l : List UInt8) : ∀ (f p : Nat) (s : Js), foldR p s (allG 8 f l p []).r = playG f l p s := by
  intro f
  induction f with
  | zero => intro p s; simp [allG, foldR, playG]
  | succ f ih =>
    intro p s
    rw [allG, playG]
    by_cases h1 : p < l.length
    · rw [if_pos h1, if_pos h1]
      by_cases h2 : (takeFr 8 (l.drop p)).e = 0
      · rw [if_pos h2, if_pos h2, (allG_acc 8 l f _ _).1]
        obtain ⟨_, hk, _, _⟩ := takeFr_ok 8 _ h2
        simp only [List.nil_append, List.singleton_append, foldR]
        cases replayJ s (takeFr 8 (l.drop p)).p with
        | none => rfl
        | some s' =>
          simp only
          rw [← hk]
          exact ih _ _
      · rw [if_neg h2, if_neg h2]
        simp [foldR]
    · rw [if_neg h1, if_neg h1]
      simp [foldR]
theorem foldR_playJ (l : List UInt8) : foldR 0 jsNew (allT 8 l).r = playJ l := foldR_play l (l.length + 1) 0 jsNew

theorem allG_recs (key : Int) (l : List UInt8) : ∀ (f p : Nat) (acc : List (List UInt8)), (∀ r ∈ acc, r.length ≤ 65536) → ∀ r ∈ (allG key f l p acc).r, r.length ≤ 65536 := by
  intro f
  induction f with
  | zero => intro p acc h; simpa [allG] using h
  | succ f ih =>
    intro p acc h
    rw [allG]
    by_cases h1 : p < l.length
    · rw [if_pos h1]
      by_cases h2 : (takeFr key (l.drop p)).e = 0
      · rw [if_pos h2]
        refine ih _ _ fun r hr => ?_
        rcases List.mem_append.1 hr with h3 | h3
        · exact h r h3
        · rw [List.mem_singleton.1 h3]
          exact (takeFr_ok key _ h2).1
      · rw [if_neg h2]
        exact h
    · rw [if_neg h1]
      exact h
theorem allT_recs (key : Int) (l : List UInt8) : ∀ r ∈ (allT key l).r, r.length ≤ 65536 := allG_recs key l _ _ [] (fun _ h => by cases h)

theorem playG_le (l : List UInt8) : ∀ (f p : Nat) (s : Js), p ≤ l.length → (playG f l p s).1 ≤ l.length := by
  intro f
  induction f with
  | zero => intro p s h; simpa [playG] using h
  | succ f ih =>
    intro p s h
    rw [playG]
    by_cases h1 : p < l.length
    · rw [if_pos h1]
      by_cases h2 : (takeFr 8 (l.drop p)).e = 0
      · rw [if_pos h2]
        have hk := takeFr_k 8 _ h2
        rw [List.length_drop] at hk
        cases replayJ s (takeFr 8 (l.drop p)).p with
        | none => exact h
        | some s' => exact ih _ _ (by omega)
      · rw [if_neg h2]
        exact h
    · rw [if_neg h1]
      exact h
theorem playJ_le (l : List UInt8) : (playJ l).1 ≤ l.length := playG_le l _ 0 jsNew (Nat.zero_le _)
theorem playG_len (l : List UInt8) : ∀ (f p : Nat) (s : Js), s.log.length ≤ 4096 → (playG f l p s).2.log.length ≤ 4096 := by
  intro f
  induction f with
  | zero => intro p s h; simpa [playG] using h
  | succ f ih =>
    intro p s h
    rw [playG]
    by_cases h1 : p < l.length
    · rw [if_pos h1]
      by_cases h2 : (takeFr 8 (l.drop p)).e = 0
      · rw [if_pos h2]
        cases hr : replayJ s (takeFr 8 (l.drop p)).p with
        | none => exact h
        | some s' => exact ih _ _ (replayJ_len hr h)
      · rw [if_neg h2]
        exact h
    · rw [if_neg h1]
      exact h
theorem playJ_len (l : List UInt8) : (playJ l).2.log.length ≤ 4096 := playG_len l _ 0 jsNew (by decide)
theorem foldR_mono : ∀ (rs : List (List UInt8)) (p : Nat) (s : Js), p ≤ (foldR p s rs).1 := by
  intro rs
  induction rs with
  | nil => intro p s; exact Nat.le_refl _
  | cons r rs ih =>
    intro p s
    rw [foldR]
    cases replayJ s r with
    | none => exact Nat.le_refl _
    | some s' => exact Nat.le_trans (Nat.le_add_right _ _) (ih _ _)

/-- The terms of what is remembered are small. -/
theorem replayJ_term {s s' : Js} {r : List UInt8} (h : replayJ s r = some s') (h0 : 0 ≤ s.term ∧ s.term ≤ 1073741824) : 0 ≤ s'.term ∧ s'.term ≤ 1073741824 := by
  unfold replayJ at h
  split at h
  · cases h
  · split at h
    · cases h
    · unfold replayB at h
      split at h
      · split at h
        · cases h
        · split at h
          · rename_i hc
            injection h with h
            subst h
            have := setX_bd hc.2
            unfold setTermS
            rw [if_pos hc.2]
            simp only
            omega
          · cases h
      · split at h
        · split at h
          · rename_i hc
            injection h with h
            subst h
            unfold addS
            rw [if_pos hc.2.2]
            exact h0
          · cases h
        · split at h
          · split at h
            · rename_i hc
              injection h with h
              subst h
              unfold cutS
              rw [if_pos hc.2]
              exact h0
            · cases h
          · cases h
theorem playG_term (l : List UInt8) : ∀ (f p : Nat) (s : Js), (0 ≤ s.term ∧ s.term ≤ 1073741824) → 0 ≤ (playG f l p s).2.term ∧ (playG f l p s).2.term ≤ 1073741824 := by
  intro f
  induction f with
  | zero => intro p s h; simpa [playG] using h
  | succ f ih =>
    intro p s h
    rw [playG]
    by_cases h1 : p < l.length
    · rw [if_pos h1]
      by_cases h2 : (takeFr 8 (l.drop p)).e = 0
      · rw [if_pos h2]
        cases hr : replayJ s (takeFr 8 (l.drop p)).p with
        | none => exact h
        | some s' => exact ih _ _ (replayJ_term hr h)
      · rw [if_neg h2]
        exact h
    · rw [if_neg h1]
      exact h
theorem playJ_term (l : List UInt8) : 0 ≤ (playJ l).2.term ∧ (playJ l).2.term ≤ 1073741824 := playG_term l _ 0 jsNew (by decide)
end Go.Proofs.Ytoiiblopnchljaa
/- The contract of the reference's All, with rows of the call's own. -/
namespace Go.Proofs.Ytoiiblopnchljaa
open Go.ChangeShapes Go.WideShapes Go.ChangeAt Go.RowKit
set_option linter.unusedVariables false

/-- A byte string in memory. -/
structure BRow where
  A : Option Addr
  c : Nat
  b : List UInt8
abbrev BRow.v (e : BRow) : Value := .slice e.A e.b.length e.c
structure BRow.ok (w : World) (e : BRow) : Prop where
  nil_ : e.A = none → e.b.length = 0
  room : e.b.length ≤ e.c
  rd : Rd w w.heap.size e.A (e.b.map bv)
/-- A slice of byte strings. -/
def RowsAt (w : World) (A : Option Addr) (rs : List (List UInt8)) : Prop := ∃ es : List BRow, es.map (·.b) = rs ∧ Rd w w.heap.size A (es.map BRow.v) ∧ ∀ e ∈ es, e.ok w

theorem BRow.ok.no {w w' : World} {e : BRow} (h : e.ok w) (hf : Fr No w w') : e.ok w' := ⟨h.nil_, h.room, (h.rd.frNo hf (Nat.le_refl _)).mono hf.size⟩
theorem RowsAt.no {w w' : World} {A : Option Addr} {rs : List (List UInt8)} (h : RowsAt w A rs) (hf : Fr No w w') : RowsAt w' A rs := by
  obtain ⟨es, h1, h2, h3⟩ := h
  exact ⟨es, h1, (h2.frNo hf (Nat.le_refl _)).mono hf.size, fun e he => (h3 e he).no hf⟩
theorem RowsAt.nil (w : World) (A : Option Addr) : RowsAt w A [] := ⟨[], rfl, .inl rfl, fun e he => by cases he⟩
/-- Element i, for every later world. -/
theorem RowsAt.at_ {w : World} {A : Option Addr} {rs : List (List UInt8)} (h : RowsAt w A rs) {i : Nat} (hi : i < rs.length) :
    ∃ (b off : Nat) (e : BRow), A = some ⟨b, off, none⟩ ∧ rs[i]? = some e.b ∧ e.ok w ∧ ∀ w' : World, Fr No w w' → w'.cell? ⟨b, off + i, none⟩ = some e.v := by
  obtain ⟨es, rfl, h2, h3⟩ := h
  rw [List.length_map] at hi
  obtain ⟨b, off, hA, hb, hc⟩ := h2.at_ (by rw [List.length_map]; omega)
  refine ⟨b, off, es[i], hA, by simp [List.getElem?_eq_getElem hi], h3 _ (List.getElem_mem hi), fun w' hf => ?_⟩
  have := hc i (by rw [List.length_map]; exact hi)
  rw [List.getElem_map] at this
  rw [hf.cell (p := ⟨b, off + i, none⟩) hb (fun h => h), this]

/-- Two owned rows of different element types lie in different blocks. -/
theorem Own.ne_own {w : World} {F G : Nat → Prop} {e e' : TypeId} {v v' : Value} {xs ys : List Value} (h : Own w F e v xs) (h' : Own w G e' v' ys) (hne : e ≠ e') : ∀ g, v.ownBlock = some g → v'.ownBlock ≠ some g := by
  intro g hg
  rcases h'.1.2 with ⟨rfl, _⟩ | ⟨g', cap, cur, rfl, _, hh, _⟩
  · exact fun h => by cases h
  · intro hk
    have hgg : g' = g := by simpa [Value.ownBlock] using hk
    subst hgg
    exact h.ne_blk (g := g') (t := e') (cs := cur) hh hne g' hg rfl

theorem rows_info : (Try.prog.info? 52).map (fun i => (i.zero, i.size, i.bytes)) = some (some (.slice none 0 0), 1, 24) := by kernel_rfl

/-- The rows so far: a row of the call's own over rows of its own. -/
structure OwnRows (w0 w : World) (v : Value) (es : List BRow) : Prop where
  row : Own w (fun i => w0.heap.size ≤ i) 52 v (es.map BRow.v)
  each : ∀ e ∈ es, Own w (fun i => w0.heap.size ≤ i) 5 e.v (e.b.map bv)
theorem OwnRows.no {w0 w w' : World} {v : Value} {es : List BRow} (h : OwnRows w0 w v es) (hf : Fr No w w') : OwnRows w0 w' v es := ⟨h.row.frNo hf, fun e he => (h.each e he).frNo hf⟩
theorem OwnRows.rows {w0 w : World} {A : Option Addr} {n c : Nat} {es : List BRow} (h : OwnRows w0 w (.slice A n c) es) : RowsAt w A (es.map (·.b)) :=
  ⟨es, rfl, h.row.rd, fun e he => ⟨(h.each e he).len.2, (h.each e he).cap.1, (h.each e he).rd⟩⟩
theorem OwnRows.snoc {w0 w w' : World} {v v' : Value} {es : List BRow} {e : BRow} {n : Nat} (h : OwnRows w0 w v es) (hB : w0.heap.size ≤ w.heap.size) (he : Own w (fun i => w0.heap.size ≤ i) 5 e.v (e.b.map bv)) (hn : es.length = n)
    (ha : Appended w 0 52 v n (es.map BRow.v) [e.v] 1 v' w') : OwnRows w0 w' v' (es ++ [e]) ∧ Fr (fun i => w0.heap.size ≤ i) w w' := by
  obtain ⟨h1, h2⟩ := h.row.appendedNew hB (by rw [List.length_map]; exact hn) rfl ha
  have hf : Fr (fun i => v.ownBlock = some i) w w' := (Fr.refl _ w).grown ha.2.1 fun k hk => .inl hk
  refine ⟨⟨by rw [List.map_append]; exact h1, fun x hx => ?_⟩, h2⟩
  have hx' : Own w (fun i => w0.heap.size ≤ i) 5 x.v (x.b.map bv) := by
    rcases List.mem_append.1 hx with hx | hx
    · exact h.each x hx
    · rw [List.mem_singleton.1 hx]; exact he
  exact hx'.fr' hf fun g hg hv => hx'.ne_own h.row (by decide) g hg hv

/-- What All returns: rows of the call's own. -/
def AllOwn (w : World) (t : AllT) (e : Ending) (w' : World) : Prop :=
  ∃ A c es, e = .returned (.tuple #[.slice A t.r.length c, .int .i64 (t.k : Int)]) ∧ es.map (·.b) = t.r ∧ OwnRows w w' (.slice A es.length c) es ∧ Fr No w w'

set_option maxHeartbeats 1000000 in
theorem rall_own (A : Option Addr) (n c : Nat) (key : Int) (l : List UInt8) (w : World) (B : Nat) (hA : A = none → n = 0) (hl : l.length = n) (hr : Rd w B A (l.map bv)) (hB : B ≤ w.heap.size) (hsz : n ≤ 1000000000000) (hnc : n ≤ c) :
    Calls Try.prog 78 #[.slice A n c, .int .i64 key] w (AllOwn w (allT key l)) := by
  obtain ⟨i0, hi0, hz0, hz1, hz2⟩ := info_parts rows_info
  obtain ⟨u0, hu0, gz0, gz1, gz2⟩ := info_parts bytes_info
  obtain ⟨T, hT⟩ : ∃ T, allT key l = T := ⟨_, rfl⟩
  rw [hT]
  unfold allT at hT
  have HA := Lib.hid hA
  have HL := Lib.hid hl
  have HR := Lib.hid hr
  have HT := Lib.hid hT
  clear hA hl hr hT
  go_enter Try.func78, Try.ntmps78
  go_wp2_with fail
  go_loopw [6, 7] (fun v p wr => ∃ (pp f : Nat) (A' : Option Addr) (c' : Nat) (es : List BRow), p = .int .i64 pp ∧ pp ≤ n ∧ n < f + pp ∧ es.length ≤ pp ∧ v = .slice A' es.length c' ∧ OwnRows w wr (.slice A' es.length c') es ∧ Fr No w wr ∧ T = allG key f l pp (es.map (·.b))) (fun _ p _ => n - (intOf p).toNat)
  case atStart => exact ⟨0, n + 1, none, 0, [], rfl, Nat.zero_le _, by omega, by simp, rfl, ⟨Own.nil _ _ _, fun e he => by cases he⟩, Fr.refl _ _, by rw [← HT.out, HL.out]; rfl⟩
  case round =>
    obtain ⟨pp, f, A', c', es, rfl, hpp, hf, hel, rfl, ho, hfr, hg⟩ := hrel
    have hs1 : w.heap.size ≤ wr.heap.size := hfr.size
    clear HT
    by_cases hlt : pp < n
    · obtain ⟨A2, hs2, hn2, hr2⟩ := run_from (P := Try.prog) 52 5 Try.underlying52 u0 hu0 gz1 A n c pp hpp HA.out
      have hr3 := hr2 wr B (l.map bv) (by rw [List.length_map, HL.out]; exact hnc) (HR.out.frNo hfr hB)
      rw [← List.map_drop] at hr3
      have hC2 := rfrtake_any A2 (n - pp) (c - pp) key (l.drop pp) wr B hn2 (by rw [List.length_drop]; exact congrArg (· - pp) HL.out) hr3 (Nat.le_trans hB hs1) (by omega) (by omega)
      obtain ⟨f, rfl⟩ : ∃ f', f = f' + 1 := ⟨f - 1, by omega⟩
      rw [allG, if_pos (by rw [HL.out]; exact hlt)] at hg
      have hk2 := takeFr_k key (l.drop pp)
      rw [List.length_drop, HL.out] at hk2
      generalize takeFr key (l.drop pp) = t at *
      obtain ⟨tp, tk, te⟩ := t
      simp only at hk2 hg
      clear hr2 hr3 hn2
      have HC2 := Lib.hid hC2
      clear hC2
      by_cases h5 : te = 0
      · rw [if_pos h5] at hg
        obtain ⟨h6, h7⟩ := hk2 h5
        subst h5
        clear hk2
        have HG := Lib.hid hg
        have HO := Lib.hid ho
        have HFR := Lib.hid hfr
        clear hg ho hfr
        go_wp2_with fail
        refine HC2.out.mono ?_
        rintro e w2 ⟨A3, c3, rfl, o3, f3⟩
        simp only at o3
        have hs3 := f3.size
        have Q3 := Lib.hid (HO.out.no f3)
        have F3 := Lib.hid (HFR.out.transNo f3)
        have o3' := o3.mono (G := fun i => w.heap.size ≤ i) fun i hi => Nat.le_trans hs1 hi
        have O3' := Lib.hid o3'
        clear o3'
        clear o3 f3
        go_wp2_with (at_builtin; refine wpList_append_rd _ rfl (.tmp 26) (.tmp 28) _ rfl 0 52 i0 _ 24 Try.underlying60 hi0 hz0 hz1 hz2 rfl _ es.length (es.map BRow.v) rfl ?c0 (w2.heap.size + 1) (some ⟨w2.heap.size, 0, none⟩) 1 1 [(⟨A3, c3, tp⟩ : BRow).v] rfl (fun h => by cases h) ?c1 rfl ?c2 ?c4 ?c5 (Nat.zero_le _) ?_)
        case c0 => exact (Q3.out.no (fr_alloc w2 _)).row.own (by rw [List.length_map])
        case c1 => exact Rd.new w2 [_] 52 rfl
        case c2 => intro u hu; rw [List.mem_singleton.1 hu]; rfl
        case c4 => unfold maxLen; omega
        case c5 => omega
        intro v4 w4 happ
        obtain ⟨o4, f4⟩ := (Q3.out.no (fr_alloc w2 (.cells #[.slice A3 tp.length c3] 52))).snoc (e := ⟨A3, c3, tp⟩) (by simp; omega) (O3'.out.frNo (fr_alloc w2 _)) rfl happ
        obtain ⟨A4, c4, hv4, n4⟩ := o4.row.form
        subst hv4
        rw [List.length_map] at o4 ⊢
        have e4 : (es ++ [⟨A3, c3, tp⟩] : List BRow).length = es.length + 1 := by simp
        have O4 := Lib.hid (o4)
        have F4 := Lib.hid ((F3.out.alloc (.cells #[.slice A3 tp.length c3] 52)).transNew f4 fun i hi => hi)
        clear happ o4 f4 n4 hs2 HC2
        go_wp2_with fail
        go_roundw
        case rel => exact ⟨pp + tk, f, A4, c4, es ++ [⟨A3, c3, tp⟩], by go_num, by omega, by omega, by simp; omega, rfl, O4.out, F4.out, by rw [HG.out]; simp⟩
        case measure => simp [intOf]; omega
      · rw [if_neg h5] at hg
        subst hg
        have b1 : (te == 0) = false := by simp [h5]
        have b1' : (te != 0) = true := by simp [h5]
        clear h5 hk2
        have HFR := Lib.hid hfr
        have HO := Lib.hid ho
        clear hfr ho
        go_wp2_with fail
        refine HC2.out.mono ?_
        rintro e w2 ⟨A3, c3, rfl, o3, f3⟩
        have Q3 := Lib.hid (HO.out.no f3)
        have F3 := Lib.hid (HFR.out.transNo f3)
        clear o3 f3
        go_wp2_with fail
        go_ret2
        exact ⟨A', c', es, by simp, rfl, Q3.out, F3.out⟩
    · have hge : T = ⟨es.map (·.b), pp⟩ := by
        rw [hg]
        rcases f with _ | f
        · rfl
        · rw [allG, if_neg (by rw [HL.out]; exact hlt)]
      subst hge
      clear hg
      have HFR := Lib.hid hfr
      have HO := Lib.hid ho
      clear hfr ho
      go_wp2_with fail
      go_ret2
      exact ⟨A', c', es, by simp, rfl, HO.out, HFR.out⟩

end Go.Proofs.Ytoiiblopnchljaa
/- The contract of record of the reference's journal. -/
namespace Go.Proofs.Ytoiiblopnchljaa
open Go.ChangeShapes Go.WideShapes Go.ChangeAt Go.RowKit
set_option linter.unusedVariables false

/-- What record leaves. -/
def RecTo (w : World) (F : Nat → Prop) (j d : Nat) (xs : List UInt8) (k : Nat) (s : Js) (R : Option Js) (e : Ending) (w' : World) : Prop := e = .returned (.bool R.isSome) ∧ RJTo w F j d xs k (R.getD s) w'

theorem replayJ_no1 (s : Js) (r : List UInt8) (h : (takN r).e ≠ 0) : replayJ s r = none := by unfold replayJ tkJ; rw [if_neg h]
theorem replayJ_no2 (s : Js) (r : List UInt8) (h : (takN r).e = 0) (h2 : (takN (r.drop (takN r).k)).e ≠ 0) : replayJ s r = none := by
  unfold replayJ
  have h3 : tkJ r = some ((takN r).n, r.drop (takN r).k) := by unfold tkJ; rw [if_pos h]
  have h4 : tkJ (r.drop (takN r).k) = none := by unfold tkJ; rw [if_neg h2]
  rw [h3]
  simp only [h4]
theorem replayJ_yes (s : Js) (r : List UInt8) (h : (takN r).e = 0) (h2 : (takN (r.drop (takN r).k)).e = 0) : replayJ s r = replayB s (takN r).n (takN (r.drop (takN r).k)).n (r.drop ((takN r).k + (takN (r.drop (takN r).k)).k)) := by
  unfold replayJ
  have h3 : tkJ r = some ((takN r).n, r.drop (takN r).k) := by unfold tkJ; rw [if_pos h]
  have h4 : tkJ (r.drop (takN r).k) = some ((takN (r.drop (takN r).k)).n, (r.drop (takN r).k).drop (takN (r.drop (takN r).k)).k) := by unfold tkJ; rw [if_pos h2]
  rw [h3]
  simp only [h4, List.drop_drop]
theorem replayB_1 (s : Js) (n : Int) (q : List UInt8) : replayB s 1 n q = if (takN q).e = 0 ∧ (takN q).k = q.length ∧ setTermX s n (takN q).n = 0 then some (setTermS s n (takN q).n) else none := by
  unfold replayB tkJ
  rw [if_pos rfl]
  by_cases h : (takN q).e = 0
  · have hk := takN_k q h
    rw [if_pos h]
    simp only [h, true_and, List.drop_eq_nil_iff]
    by_cases h1 : (takN q).k = q.length
    · simp [h1]
    · have : ¬ q.length ≤ (takN q).k := by omega
      simp [h1, this]
  · rw [if_neg h]
    simp [h]
theorem replayB_2 (s : Js) (n : Int) (q : List UInt8) : replayB s 2 n q = if (readE q).x = 0 ∧ (readE q).k = q.length ∧ addX s n (readE q).e = 0 then some (addS s n (readE q).e) else none := by
  unfold replayB
  rw [if_neg (by decide), if_pos rfl]
theorem replayB_3 (s : Js) (n : Int) (q : List UInt8) : replayB s 3 n q = if q = [] ∧ cutX s n = 0 then some (cutS s n) else none := by
  unfold replayB
  rw [if_neg (by decide), if_neg (by decide), if_pos rfl]
theorem replayB_4 (s : Js) (kd n : Int) (q : List UInt8) (h1 : kd ≠ 1) (h2 : kd ≠ 2) (h3 : kd ≠ 3) : replayB s kd n q = none := by
  unfold replayB
  rw [if_neg h1, if_neg h2, if_neg h3]

theorem intsG_k : ∀ (f : Nat) (l : List UInt8) (p : Nat) (acc : List Int), p ≤ l.length → (intsG f l p acc).k ≤ l.length := by
  intro f
  induction f with
  | zero => intro l p acc h; simpa [intsG] using h
  | succ f ih =>
    intro l p acc h
    rw [intsG]
    by_cases h1 : (takN (l.drop p)).e = 0
    · rw [if_pos h1]
      have := takN_k _ h1
      rw [List.length_drop] at this
      exact ih _ _ _ (by omega)
    · rw [if_neg h1]
      exact Nat.zero_le _
theorem readE_k (l : List UInt8) : (readE l).k ≤ l.length := by
  have := intsG_k 9 l 0 [] (Nat.zero_le _)
  unfold readE finE
  split
  · split
    · exact this
    · exact Nat.zero_le _
  · exact Nat.zero_le _

set_option maxRecDepth 100000 in
set_option maxHeartbeats 8000000 in
theorem rj_record {w : World} {F : Nat → Prop} {j d : Nat} {xs : List UInt8} {k : Nat} {s : Js} (h : RJAt w F j d xs k s) (hlen : s.log.length ≤ 4096) (A : Option Addr) (m c : Nat) (r : List UInt8) (B : Nat) (hA : A = none → m = 0) (hl : r.length = m) (hm : m ≤ 65536) (hnc : m ≤ c) (hr : Rd w B A (r.map bv)) (hB : B ≤ w.heap.size) :
    Calls Try.prog 79 #[.pointer (some ⟨j, 0, none⟩), .slice A m c] w (RecTo w F j d xs k s (replayJ s r)) := by
  obtain ⟨u0, hu0, gz0, gz1, gz2⟩ := info_parts bytes_info
  obtain ⟨R, hR⟩ : ∃ R, R = replayJ s r := ⟨_, rfl⟩
  rw [← hR]
  have hno := fun W (hf : Fr No w W) => h.still hf
  have hT1 := rtake_any A m c r w B hl (by unfold maxLen; omega) hr
  have n1 := replayJ_no1 s r
  have n2 := replayJ_no2 s r
  have n3 := replayJ_yes s r
  have hk1 := takN_k r
  rw [← hR] at n1 n2 n3
  clear hR
  revert hT1 n1 n2 n3 hk1
  generalize takN r = t1
  intro hT1 n1 n2 n3 hk1
  obtain ⟨kd, k1, e1⟩ := t1
  simp only at n1 n2 n3 hk1
  by_cases h1 : e1 = 0
  case neg =>
    have hRR := n1 h1
    subst hRR
    have b1 : (e1 == 0) = false := by simpa using h1
    have b2 : (e1 != 0) = true := by simpa using h1
    clear n1 n2 n3 hr hk1 h1 h
    have HT1 := Lib.hid hT1
    have HNO := Lib.hid hno
    clear hT1 hno
    go_enter Try.func79, Try.ntmps79
    go_wp2_with fail
    refine HT1.out.mono ?_
    rintro e w1 ⟨rfl, rfl⟩
    go_wp2_with fail
    go_ret
    exact ⟨ret_bool rfl, HNO.out _ (Fr.refl _ _)⟩
  subst h1
  have hk1 := hk1 rfl
  replace n2 := n2 rfl
  replace n3 := n3 rfl
  clear n1
  obtain ⟨A1, hs1, hn1, hr1⟩ := run_from (P := Try.prog) 52 5 Try.underlying52 u0 hu0 gz1 A m c k1 (by omega) hA
  have hr1 := hr1 w B (r.map bv) (by rw [List.length_map, hl]; exact hnc) hr
  rw [← List.map_drop] at hr1
  have hdl : (r.drop k1).length = m - k1 := by rw [List.length_drop, hl]
  have hT2 := rtake_any A1 (m - k1) (c - k1) (r.drop k1) w B hdl (by unfold maxLen; omega) hr1
  have hk2 := takN_k (r.drop k1)
  rw [hdl] at hk2
  revert hT2 n2 n3 hk2
  generalize takN (r.drop k1) = t2
  intro n2 n3 hT2 hk2
  obtain ⟨n, k2, e2⟩ := t2
  simp only at n2 n3 hk2
  by_cases h2 : e2 = 0
  case neg =>
    have hRR := n2 h2
    subst hRR
    have b1 : (e2 == 0) = false := by simpa using h2
    have b2 : (e2 != 0) = true := by simpa using h2
    clear n2 n3 hr hr1 hk2 h2 h hdl hn1
    have HT1 := Lib.hid hT1
    have HT2 := Lib.hid hT2
    have HNO := Lib.hid hno
    clear hT1 hT2 hno
    go_enter Try.func79, Try.ntmps79
    go_wp2_with fail
    refine HT1.out.mono ?_
    rintro e w1 ⟨rfl, rfl⟩
    go_wp2_with fail
    refine HT2.out.mono ?_
    rintro e w1 ⟨rfl, rfl⟩
    go_wp2_with fail
    go_ret
    exact ⟨ret_bool rfl, HNO.out _ (Fr.refl _ _)⟩
  subst h2
  have hk2 := hk2 rfl
  have hRB := n3 rfl
  clear n2 n3
  obtain ⟨A2, hs2, hn2, hr2⟩ := run_from (P := Try.prog) 52 5 Try.underlying52 u0 hu0 gz1 A m c (k1 + k2) (by omega) hA
  have hr2 := hr2 w B (r.map bv) (by rw [List.length_map, hl]; exact hnc) hr
  rw [← List.map_drop] at hr2
  have hql : (r.drop (k1 + k2)).length = m - (k1 + k2) := by rw [List.length_drop, hl]
  generalize r.drop (k1 + k2) = q at *
  simp only [Int.natCast_add] at hs2
  clear hr hr1 hdl hn1
  by_cases c1 : kd = 1
  · subst c1
    rw [replayB_1] at hRB
    have hT3 := rtake_any A2 (m - (k1 + k2)) (c - (k1 + k2)) q w B hql (by unfold maxLen; omega) hr2
    have hk3 := takN_k q
    have hset := fun v => rj_setTerm h n v
    have hsn := fun v hx => setTermS_no (s := s) (t := n) (v := v) hx
    revert hT3 hk3 hRB
    generalize takN q = t3
    intro hRB hT3 hk3
    obtain ⟨v, k3, e3⟩ := t3
    simp only at hk3 hRB
    rw [hql] at hk3 hRB
    replace hset := hset v
    replace hsn := hsn v
    clear hr2 hql h hn2
    by_cases h3 : e3 = 0
    case neg =>
      rw [if_neg (fun hh => h3 hh.1)] at hRB
      subst hRB
      have b1 : (e3 == 0) = false := by simpa using h3
      clear hk3 h3 hset hsn
      have HT1 := Lib.hid hT1
      have HT2 := Lib.hid hT2
      have HT3 := Lib.hid hT3
      have HNO := Lib.hid hno
      clear hT1 hT2 hT3 hno
      go_enter Try.func79, Try.ntmps79
      go_wp2_with fail
      refine HT1.out.mono ?_
      rintro e w1 ⟨rfl, rfl⟩
      go_wp2_with fail
      refine HT2.out.mono ?_
      rintro e w1 ⟨rfl, rfl⟩
      go_wp2_with fail
      refine HT3.out.mono ?_
      rintro e w1 ⟨rfl, rfl⟩
      go_wp2_with fail
      go_ret
      exact ⟨ret_bool rfl, HNO.out _ (Fr.refl _ _)⟩
    subst h3
    have hk3 := hk3 rfl
    simp only [true_and] at hRB
    by_cases h4 : k3 = m - (k1 + k2)
    case neg =>
      rw [if_neg (fun hh => h4 hh.1)] at hRB
      subst hRB
      have b1 : ((k1 : Int) + (k2 : Int) + (k3 : Int) == (m : Int)) = false := by simp; omega
      clear h4 hset hsn
      have HT1 := Lib.hid hT1
      have HT2 := Lib.hid hT2
      have HT3 := Lib.hid hT3
      have HNO := Lib.hid hno
      clear hT1 hT2 hT3 hno
      go_enter Try.func79, Try.ntmps79
      go_wp2_with fail
      refine HT1.out.mono ?_
      rintro e w1 ⟨rfl, rfl⟩
      go_wp2_with fail
      refine HT2.out.mono ?_
      rintro e w1 ⟨rfl, rfl⟩
      go_wp2_with fail
      refine HT3.out.mono ?_
      rintro e w1 ⟨rfl, rfl⟩
      go_wp2_with fail
      go_ret
      exact ⟨ret_bool rfl, HNO.out _ (Fr.refl _ _)⟩
    have b1 : ((k1 : Int) + (k2 : Int) + (k3 : Int) == (m : Int)) = true := by simp; omega
    simp only [h4, true_and] at hRB
    clear h4
    generalize setTermX s n v = X at *
    generalize setTermS s n v = S at *
    have HT1 := Lib.hid hT1
    have HT2 := Lib.hid hT2
    have HT3 := Lib.hid hT3
    have HNO := Lib.hid hno
    have HSET := Lib.hid hset
    have HSN := Lib.hid hsn
    have HRB := Lib.hid hRB
    clear hT1 hT2 hT3 hno hset hsn hRB
    go_enter Try.func79, Try.ntmps79
    go_wp2_with fail
    refine HT1.out.mono ?_
    rintro e w1 ⟨rfl, rfl⟩
    go_wp2_with fail
    refine HT2.out.mono ?_
    rintro e w1 ⟨rfl, rfl⟩
    go_wp2_with fail
    refine HT3.out.mono ?_
    rintro e w1 ⟨rfl, rfl⟩
    go_wp2_with fail
    refine HSET.out.mono ?_
    rintro e w4 ⟨rfl, j4⟩
    have J4 := Lib.hid j4
    clear j4
    have hR := HRB.out
    clear HRB
    by_cases hx : X = 0
    · rw [if_pos hx] at hR
      subst hR hx
      go_wp2_with fail
      go_ret
      exact ⟨ret_bool rfl, J4.out⟩
    · rw [if_neg hx] at hR
      subst hR
      have b9 : (X == 0) = false := by simpa using hx
      have HXX := Lib.hid hx
      clear hx
      go_wp2_with fail
      go_ret
      refine ⟨ret_bool rfl, ?_⟩
      have := J4.out
      rw [HSN.out HXX.out] at this
      exact this
  have t1 : (kd == 1) = false := by simpa using c1
  by_cases c2 : kd = 2
  · subst c2
    rw [replayB_2] at hRB
    have hT3 := rread_any A2 (m - (k1 + k2)) (c - (k1 + k2)) q w B hn2 hql (by unfold maxLen; omega) (by omega) hr2 hB
    have hadd := fun W (hf : Fr No w W) (en : En) => rj_add (h.frNo hf) hlen n en
    have hsn := fun (en : En) hx => addS_no (s := s) (t := n) (e := en) hx
    have hk3 := readE_k q
    clear c1 h hn2 hr2
    revert hT3 hRB hk3
    generalize readE q = T
    intro hRB hT3 hk3
    obtain ⟨en, k3, e3⟩ := T
    simp only at hRB hk3
    rw [hql] at hRB hk3
    replace hadd := fun W (hf : Fr No w W) => hadd W hf en
    replace hsn := hsn en
    unfold RdTo at hT3
    simp only at hT3
    clear hql
    by_cases h3 : e3 = 0
    case neg =>
      rw [if_neg (fun hh => h3 hh.1)] at hRB
      subst hRB
      have b1 : (e3 == 0) = false := by simpa using h3
      clear h3 hadd hsn
      obtain ⟨k0, tick, te, ce, ot, ep, fr, un, n0⟩ := en
      unfold En.v at hT3
      have HT1 := Lib.hid hT1
      have HT2 := Lib.hid hT2
      have HT3 := Lib.hid hT3
      have HNO := Lib.hid hno
      clear hT1 hT2 hT3 hno
      go_enter Try.func79, Try.ntmps79
      go_wp2_with fail
      refine HT1.out.mono ?_
      rintro e w1 ⟨rfl, rfl⟩
      go_wp2_with fail
      refine HT2.out.mono ?_
      rintro e w1 ⟨rfl, rfl⟩
      go_wp2_with fail
      refine HT3.out.mono ?_
      rintro e w3 ⟨rfl, f3⟩
      have F3 := Lib.hid (f3.alloc (.cells #[.int .i64 k0, .int .i64 tick, .int .i64 te, .int .i64 ce, .int .i64 ot, .int .i64 ep, .int .i64 fr, .int .i64 un, .int .i64 n0] TEnt))
      clear f3
      go_wp2_with fail
      go_ret
      exact ⟨ret_bool rfl, HNO.out _ F3.out⟩
    subst h3
    simp only [true_and] at hRB
    by_cases h4 : k3 = m - (k1 + k2)
    case neg =>
      rw [if_neg (fun hh => h4 hh.1)] at hRB
      subst hRB
      have b1 : ((k1 : Int) + (k2 : Int) + (k3 : Int) == (m : Int)) = false := by simp; omega
      clear h4 hadd hsn
      obtain ⟨k0, tick, te, ce, ot, ep, fr, un, n0⟩ := en
      unfold En.v at hT3
      have HT1 := Lib.hid hT1
      have HT2 := Lib.hid hT2
      have HT3 := Lib.hid hT3
      have HNO := Lib.hid hno
      clear hT1 hT2 hT3 hno
      go_enter Try.func79, Try.ntmps79
      go_wp2_with fail
      refine HT1.out.mono ?_
      rintro e w1 ⟨rfl, rfl⟩
      go_wp2_with fail
      refine HT2.out.mono ?_
      rintro e w1 ⟨rfl, rfl⟩
      go_wp2_with fail
      refine HT3.out.mono ?_
      rintro e w3 ⟨rfl, f3⟩
      have F3 := Lib.hid (f3.alloc (.cells #[.int .i64 k0, .int .i64 tick, .int .i64 te, .int .i64 ce, .int .i64 ot, .int .i64 ep, .int .i64 fr, .int .i64 un, .int .i64 n0] TEnt))
      clear f3
      go_wp2_with fail
      go_ret
      exact ⟨ret_bool rfl, HNO.out _ F3.out⟩
    have b1 : ((k1 : Int) + (k2 : Int) + (k3 : Int) == (m : Int)) = true := by simp; omega
    simp only [h4, true_and] at hRB
    clear h4
    generalize addX s n en = X at *
    generalize addS s n en = S at *
    obtain ⟨k0, tick, te, ce, ot, ep, fr, un, n0⟩ := en
    unfold En.v at hT3 hadd
    have HT1 := Lib.hid hT1
    have HT2 := Lib.hid hT2
    have HT3 := Lib.hid hT3
    have HNO := Lib.hid hno
    have HADD := Lib.hid hadd
    have HSN := Lib.hid hsn
    have HRB := Lib.hid hRB
    clear hT1 hT2 hT3 hno hadd hsn hRB
    go_enter Try.func79, Try.ntmps79
    go_wp2_with fail
    refine HT1.out.mono ?_
    rintro e w1 ⟨rfl, rfl⟩
    go_wp2_with fail
    refine HT2.out.mono ?_
    rintro e w1 ⟨rfl, rfl⟩
    go_wp2_with fail
    refine HT3.out.mono ?_
    rintro e w3 ⟨rfl, f3⟩
    have F3 := Lib.hid (f3.alloc (.cells #[.int .i64 k0, .int .i64 tick, .int .i64 te, .int .i64 ce, .int .i64 ot, .int .i64 ep, .int .i64 fr, .int .i64 un, .int .i64 n0] TEnt))
    clear f3
    go_wp2_with fail
    refine (HADD.out _ F3.out).mono ?_
    rintro e w4 ⟨rfl, j4⟩
    have J4 := Lib.hid (RJTo.after F3.out j4)
    clear j4
    have hR := HRB.out
    clear HRB
    by_cases hx : X = 0
    · rw [if_pos hx] at hR
      subst hR hx
      go_wp2_with fail
      go_ret
      exact ⟨ret_bool rfl, J4.out⟩
    · rw [if_neg hx] at hR
      subst hR
      have b9 : (X == 0) = false := by simpa using hx
      have HXX := Lib.hid hx
      clear hx
      go_wp2_with fail
      go_ret
      refine ⟨ret_bool rfl, ?_⟩
      have := J4.out
      rw [HSN.out HXX.out] at this
      exact this
  have t2 : (kd == 2) = false := by simpa using c2
  by_cases c3 : kd = 3
  · subst c3
    rw [replayB_3] at hRB
    have hcut := rj_cut h hlen n
    have hsn := fun hx => cutS_no (s := s) (n := n) hx
    clear c1 c2 h hn2 hr2
    by_cases h4 : q = []
    case neg =>
      rw [if_neg (fun hh => h4 hh.1)] at hRB
      subst hRB
      have h5 : q.length ≠ 0 := fun hh => h4 (List.eq_nil_of_length_eq_zero hh)
      have b1 : ((k1 : Int) + (k2 : Int) == (m : Int)) = false := by simp; omega
      clear h4 h5 hcut hsn hql
      have HT1 := Lib.hid hT1
      have HT2 := Lib.hid hT2
      have HNO := Lib.hid hno
      clear hT1 hT2 hno
      go_enter Try.func79, Try.ntmps79
      go_wp2_with fail
      refine HT1.out.mono ?_
      rintro e w1 ⟨rfl, rfl⟩
      go_wp2_with fail
      refine HT2.out.mono ?_
      rintro e w1 ⟨rfl, rfl⟩
      go_wp2_with fail
      go_ret
      exact ⟨ret_bool rfl, HNO.out _ (Fr.refl _ _)⟩
    subst h4
    simp only [true_and] at hRB
    simp only [List.length_nil] at hql
    have b1 : ((k1 : Int) + (k2 : Int) == (m : Int)) = true := by simp; omega
    clear hql
    generalize cutX s n = X at *
    generalize cutS s n = S at *
    have HT1 := Lib.hid hT1
    have HT2 := Lib.hid hT2
    have HNO := Lib.hid hno
    have HCUT := Lib.hid hcut
    have HSN := Lib.hid hsn
    have HRB := Lib.hid hRB
    clear hT1 hT2 hno hcut hsn hRB
    go_enter Try.func79, Try.ntmps79
    go_wp2_with fail
    refine HT1.out.mono ?_
    rintro e w1 ⟨rfl, rfl⟩
    go_wp2_with fail
    refine HT2.out.mono ?_
    rintro e w1 ⟨rfl, rfl⟩
    go_wp2_with fail
    refine HCUT.out.mono ?_
    rintro e w4 ⟨rfl, j4⟩
    have J4 := Lib.hid j4
    clear j4
    have hR := HRB.out
    clear HRB
    by_cases hx : X = 0
    · rw [if_pos hx] at hR
      subst hR hx
      go_wp2_with fail
      go_ret
      exact ⟨ret_bool rfl, J4.out⟩
    · rw [if_neg hx] at hR
      subst hR
      have b9 : (X == 0) = false := by simpa using hx
      have HXX := Lib.hid hx
      clear hx
      go_wp2_with fail
      go_ret
      refine ⟨ret_bool rfl, ?_⟩
      have := J4.out
      rw [HSN.out HXX.out] at this
      exact this
  have t3 : (kd == 3) = false := by simpa using c3
  rw [replayB_4 s kd n q c1 c2 c3] at hRB
  subst hRB
  clear c1 c2 c3 h hn2 hr2 hql
  have HT1 := Lib.hid hT1
  have HT2 := Lib.hid hT2
  have HNO := Lib.hid hno
  clear hT1 hT2 hno
  go_enter Try.func79, Try.ntmps79
  go_wp2_with fail
  refine HT1.out.mono ?_
  rintro e w1 ⟨rfl, rfl⟩
  go_wp2_with fail
  refine HT2.out.mono ?_
  rintro e w1 ⟨rfl, rfl⟩
  go_wp2_with fail
  go_ret
  exact ⟨ret_bool rfl, HNO.out _ (Fr.refl _ _)⟩
end Go.Proofs.Ytoiiblopnchljaa
/- The contracts of Crash and Open of the reference's journal. -/
namespace Go.Proofs.Ytoiiblopnchljaa
open Go.ChangeShapes Go.WideShapes Go.ChangeAt Go.RowKit
set_option linter.unusedVariables false

theorem allG_small (key : Int) (l : List UInt8) : ∀ (f p : Nat) (acc : List (List UInt8)), (allG key f l p acc).r.length ≤ acc.length + (l.length - p) := by
  intro f
  induction f with
  | zero => intro p acc; simp [allG]
  | succ f ih =>
    intro p acc
    rw [allG]
    by_cases h1 : p < l.length
    · rw [if_pos h1]
      by_cases h2 : (takeFr key (l.drop p)).e = 0
      · rw [if_pos h2]
        have h3 := takeFr_k key _ h2
        have h4 := ih (p + (takeFr key (l.drop p)).k) (acc ++ [(takeFr key (l.drop p)).p])
        rw [List.length_append, List.length_singleton] at h4
        omega
      · rw [if_neg h2]; simp
    · rw [if_neg h1]; simp
theorem allT_small (key : Int) (l : List UInt8) : (allT key l).r.length ≤ l.length := by
  have := allG_small key l (l.length + 1) 0 []
  simpa [allT] using this

theorem rj_trunc {w : World} {F : Nat → Prop} {j d : Nat} {xs : List UInt8} {k : Nat} {s : Js} (h : RJAt w F j d xs k s) (n : Nat) (hn : n ≤ xs.length) :
    Calls Try.prog 81 #[.pointer (some ⟨d, 0, none⟩), .int .i64 (n : Int)] w fun e w' => e = .returned (.int .i64 0) ∧ RJTo w F j d (xs.take n) (min k n) s w' := by
  obtain ⟨v, Fd, h1, h2, h3, h4, h5, h6, h7, h8⟩ := h
  exact (rdisk_truncate_yes w Fd d xs k h4 n hn).mono fun e w' ⟨e1, e2⟩ => ⟨e1, RJAt.disk h1 h2 h3 h5 h6 h7 h8 e2⟩
/-- The bytes of a journal's disk, for a walk. -/
theorem RJAt.bytes {w : World} {F : Nat → Prop} {j d : Nat} {xs : List UInt8} {k : Nat} {s : Js} (h : RJAt w F j d xs k s) :
    ∃ A c, w.cell? ⟨d, 0, none⟩ = some (.slice A xs.length c) ∧ (A = none → xs.length = 0) ∧ xs.length ≤ c ∧ Rd w w.heap.size A (xs.map bv) ∧ Own w F 5 (.slice A xs.length c) (xs.map bv) := by
  obtain ⟨v, Fd, h1, h2, h3, h4, h5, h6, h7, h8⟩ := h
  obtain ⟨A, c, g1, g2, g3, g4, g5, c0, c1, f0, f1, hn, hcap⟩ := h4.open_
  exact ⟨A, c, c0, hn, hcap, g3.rd, g3.mono h5⟩

/-- Row m of rows of a call's own, in every world in which only F has turned. -/
theorem OwnRows.at_ {w0 w : World} {A : Option Addr} {n c : Nat} {es : List BRow} (h : OwnRows w0 w (.slice A n c) es) {F : Nat → Prop} (hF : ∀ g, w0.heap.size ≤ g → g < w.heap.size → ¬ F g) {m : Nat} (hm : m < es.length) :
    ∃ (b off : Nat), A = some ⟨b, off, none⟩ ∧ ∀ V, Fr F w V → V.cell? ⟨b, off + m, none⟩ = some es[m].v ∧ Own V (fun i => w0.heap.size ≤ i) 5 es[m].v (es[m].b.map bv) := by
  obtain ⟨b, off, hA, hb, hc⟩ := h.row.rd.at_ (by rw [List.length_map]; omega)
  refine ⟨b, off, hA, fun V hV => ⟨?_, (h.each _ (List.getElem_mem hm)).fr' hV fun g hg => hF g ((h.each _ (List.getElem_mem hm)).2 g hg) ((h.each _ (List.getElem_mem hm)).lt g hg)⟩⟩
  have hr := h.row.fr' hV fun g hg => hF g (h.row.2 g hg) (h.row.lt g hg)
  obtain ⟨b', off', hA', hb', hc'⟩ := hr.rd.at_ (by rw [List.length_map]; omega)
  rw [hA] at hA'
  injection hA' with hA'
  injection hA' with e1 e2
  subst e1 e2
  have := hc' m (by rw [List.length_map]; exact hm)
  rwa [List.getElem_map] at this

set_option maxRecDepth 100000 in
set_option maxHeartbeats 4000000 in
theorem rj_crash {w : World} {F : Nat → Prop} {j d : Nat} {xs : List UInt8} {k : Nat} {s : Js} (h : RJAt w F j d xs k s) (keep : Int) (hsz : xs.length ≤ 1000000000000) :
    Calls Try.prog 54 #[.pointer (some ⟨j, 0, none⟩), .int .i64 keep] w fun e w' => e = .returned (.tuple #[]) ∧ RJTo w F j d ((xs.take (crashN xs.length k keep)).take (playJ (xs.take (crashN xs.length k keep))).1) (min (crashN xs.length k keep) (playJ (xs.take (crashN xs.length k keep))).1) (playJ (xs.take (crashN xs.length k keep))).2 w' := by
  obtain ⟨A1, c1, Fd, h1, h2, h3, h4, h5, h6, h7, h8, d0, d1, d2, d3, hn⟩ := h.open_
  have hcr := rdisk_crash w Fd d xs k h4 keep
  have hfin := fun V' (hd : DskTo TRDisk w Fd d (xs.take (crashN xs.length k keep)) (crashN xs.length k keep) V') => RJAt.disk h1 h2 h3 h5 h6 h7 h8 hd
  have hbl : (xs.take (crashN xs.length k keep)).length ≤ xs.length := by rw [List.length_take]; omega
  revert hcr hfin hbl
  generalize xs.take (crashN xs.length k keep) = b
  generalize crashN xs.length k keep = nd
  intro hcr hfin hbl
  have hT := foldR_playJ b
  have hle := playJ_le b
  have hrec := allT_recs 8 b
  have hsm := allT_small 8 b
  generalize playJ b = T at *
  clear h h1 h2 h3 h4 h5 h6 h7 h8 hn d1 d2 d3
  have HCR := Lib.hid hcr
  have HFIN := Lib.hid hfin
  have HT := Lib.hid hT
  have HREC := Lib.hid hrec
  clear hcr hfin hT hrec
  go_enter Try.func54, Try.ntmps54
  go_wp2_with fail
  refine HCR.out.mono ?_
  rintro e w1 ⟨rfl, dd⟩
  obtain ⟨G1, a1, i1, f1⟩ := HFIN.out _ dd
  have h1lt := a1.lt
  have p1 := a1.ptr
  obtain ⟨Ab, cb, q1, nb, hcb, rb, -⟩ := a1.bytes
  clear HCR HFIN dd d0
  have A1 := Lib.hid a1
  have I1 := Lib.hid i1
  have F1 := Lib.hid f1
  have NB := Lib.hid nb
  have RB := Lib.hid rb
  have H1LT := Lib.hid h1lt
  clear a1 i1 f1 nb rb h1lt
  go_wp2_with fail
  refine (rall_own Ab b.length cb 8 b w1 w1.heap.size NB.out rfl RB.out (Nat.le_refl _) (by omega) hcb).mono ?_
  rintro e w2 ⟨Ar, cr, es, rfl, hes, o2, f2⟩
  have a2 := A1.out.frNo f2
  have f2s := f2.size
  have F2 := Lib.hid f2
  have hrl : (allT 8 b).r.length = es.length := by rw [← hes, List.length_map]
  rw [hrl] at hsm ⊢
  have hT := HT.out
  have hrec := HREC.out
  rw [← hes] at hT hrec
  clear f2 A1 NB RB p1 q1 HT HREC hes hrl
  have hrm : ∀ e ∈ es, e.b.length ≤ 65536 := fun e he => hrec e.b (List.mem_map_of_mem he)
  obtain ⟨W3, hW3⟩ : ∃ W3, W3 = ((w2.setCell ⟨j, 1, none⟩ (.int .i64 0)).setCell ⟨j, 2, none⟩ (.int .i64 (-1))).setCell ⟨j, 3, none⟩ (.slice none 0 0) := ⟨_, rfl⟩
  have hfg := a2.forget
  rw [← hW3] at hfg
  obtain ⟨A2, c2, Fd2, h1, -, -, -, -, -, -, -, d0, d1, d2, d3, -⟩ := a2.open_
  have q1 := h1.frozen 1
  have q2 := h1.frozen 2
  have q3 := h1.frozen 3
  have hjl := h1.lt
  clear h1 a2
  obtain ⟨G3, a3, i3, f3⟩ := hfg
  have hthen := fun ys m s' V (hj : RJTo W3 G3 j d ys m s' V) => RJTo.then F1.out I1.out (RJTo.after F2.out (RJTo.then f3 i3 hj))
  have hne : ∀ g, w1.heap.size ≤ g → g < w2.heap.size → ¬ G1 g := fun g hg _ hh => by
    have := H1LT.out g hh
    omega
  have hor : ∀ (m : Nat) (hm : m < es.length), ∃ (b off : Nat), Ar = some ⟨b, off, none⟩ ∧ ∀ V, Fr G3 W3 V → V.cell? ⟨b, off + m, none⟩ = some es[m].v ∧ Own V (fun i => w1.heap.size ≤ i) 5 es[m].v (es[m].b.map bv) := fun m hm => by
    obtain ⟨b, off, hA, hV⟩ := o2.at_ hne hm
    refine ⟨b, off, hA, fun V hf => hV V (f3.trans hf fun i hi => ?_)⟩
    exact i3 i hi
  clear o2 hrec hne f3 i3 F1 I1 F2
  have A3 := Lib.hid a3
  have HTHEN := Lib.hid hthen
  have HOR := Lib.hid hor
  have HW3 := Lib.hid hW3
  have HT := Lib.hid hT
  have HRM := Lib.hid hrm
  clear a3 hthen hor hW3 hT hrm
  go_wp2_with fail
  rw [← HW3.out]
  clear HW3 d0 d1 d2 d3 q1 q2 q3 hjl
  go_loopw [6, 7] (fun o i wr => ∃ (m p : Nat) (s' : Js), o = .int .i64 p ∧ i = .int .i64 m ∧ m ≤ es.length ∧ foldR p s' ((es.drop m).map (·.b)) = T ∧ s'.log.length ≤ 4096 ∧ RJTo W3 G3 j d b nd s' wr) (fun _ i _ => es.length - (intOf i).toNat)
  case atStart => exact ⟨0, 0, jsNew, rfl, rfl, Nat.zero_le _, by rw [List.drop_zero]; exact HT.out, by decide, A3.out.self⟩
  case round =>
    obtain ⟨m, p, s', rfl, rfl, hm, hT2, hl4, hj⟩ := hrel
    have hpT : p ≤ b.length := by
      have := foldR_mono ((es.drop m).map (·.b)) p s'
      rw [hT2] at this
      omega
    obtain ⟨G4, a4, i4, f4⟩ := hj
    have hend := fun w' ys q s9 (hj : RJTo wr G4 j d ys q s9 w') => HTHEN.out ys q s9 w' (RJTo.then f4 i4 hj)
    have hcont := fun w' s9 (hj : RJTo wr G4 j d b nd s9 w') => RJTo.then f4 i4 hj
    have hptr := a4.ptr
    clear HT
    by_cases hlt : m < es.length
    · obtain ⟨bb, off, rfl, hV⟩ := HOR.out m hlt
      rw [List.drop_eq_getElem_cons hlt, List.map_cons] at hT2
      obtain ⟨cl, ow⟩ := hV wr f4
      have hrl := HRM.out es[m] (List.getElem_mem hlt)
      have hV2 : ∀ V, Fr G4 wr V → V.cell? ⟨bb, off + m, none⟩ = some es[m].v ∧ Own V (fun i => w1.heap.size ≤ i) 5 es[m].v (es[m].b.map bv) := fun V hf => hV V (f4.trans hf i4)
      generalize es[m] = en at *
      obtain ⟨Ae, ce, be⟩ := en
      simp only [BRow.v] at cl ow hT2 hV2 hrl
      have hrep := rj_record a4 hl4 Ae be.length ce be wr.heap.size ow.len.2 rfl hrl ow.cap.1 ow.rd (Nat.le_refl _)
      have hrlen := fun s9 hh => replayJ_len (s := s') (r := be) (s' := s9) hh hl4
      unfold RecTo at hrep
      rw [foldR] at hT2
      have hb1 : decide ((m : Int) < (es.length : Int)) = true := by simp; omega
      have hi0 : (0 : Int) ≤ (m : Int) := by omega
      have hi1 : (m : Int) < (es.length : Int) := by omega
      clear ow hV a4 f4 i4
      generalize hRR : replayJ s' be = R at *
      clear hRR
      cases R with
      | none =>
        simp only [Option.isSome_none, Option.getD_none] at hT2 hrep
        clear hrlen hcont hV2 HOR
        have HREP := Lib.hid hrep
        have HEND := Lib.hid hend
        have HT2 := Lib.hid hT2
        clear hrep hend hT2
        go_wp2_with fail
        refine HREP.out.mono ?_
        rintro e w6 ⟨rfl, j6⟩
        obtain ⟨G6, a6, i6, f6⟩ := j6
        have d6 := a6.ptr
        have hfin := rj_trunc a6 p hpT
        have hend2 := fun w' ys q s9 (hj : RJTo w6 G6 j d ys q s9 w') => HEND.out w' ys q s9 (RJTo.then f6 i6 hj)
        clear a6 i6 f6 HREP HEND hptr cl
        have HFIN := Lib.hid hfin
        have HEND2 := Lib.hid hend2
        clear hfin hend2
        go_wp2_with fail
        refine HFIN.out.mono ?_
        rintro e w9 ⟨rfl, j9⟩
        have J9 := Lib.hid (HEND2.out _ _ _ _ j9)
        clear j9
        go_wp2_with fail
        go_end0
        rw [← HT2.out]
        exact ⟨rfl, J9.out⟩
      | some s9 =>
        simp only [Option.isSome_some, Option.getD_some] at hT2 hrep
        have hl9 := hrlen s9 rfl
        have hpl := putN_lenP 8 be hrl
        have hpm := foldR_mono ((es.drop (m + 1)).map (·.b)) (p + (putN 8 be).length) s9
        rw [hT2] at hpm
        clear hrlen hend
        have HREP := Lib.hid hrep
        have HCONT := Lib.hid hcont
        have HT2 := Lib.hid hT2
        have HV2 := Lib.hid hV2
        clear hrep hcont hT2 hV2
        go_wp2_with fail
        refine HREP.out.mono ?_
        rintro e w6 ⟨rfl, j6⟩
        obtain ⟨cl6, ow6⟩ := HV2.out _ (let ⟨_, _, _, g⟩ := j6; g)
        have J6 := Lib.hid j6
        have OW6 := Lib.hid ow6
        clear j6 ow6 cl hptr
        go_wp2_with fail
        refine (rput_short none 0 0 8 Ae be.length ce [] be w6 w6.heap.size (fun _ => rfl) rfl (.inl rfl) OW6.out.len.2 rfl OW6.out.rd (Nat.le_refl _) (by omega) hrl).mono ?_
        rintro e w7 ⟨A7, c7, rfl, -, f7⟩
        rw [List.nil_append]
        have J7 := Lib.hid (RJTo.trans J6.out fun F' h => h.still f7)
        clear f7
        go_wp2_with fail
        go_roundw
        case rel => exact ⟨m + 1, p + (putN 8 be).length, s9, by go_num, by go_num, by omega, HT2.out, hl9, HCONT.out _ _ J7.out⟩
        case measure => simp [intOf]; omega
    · have hTT : (p, s') = T := by
        rw [← hT2, List.drop_eq_nil_of_le (by omega)]
        rfl
      have hb1 : decide ((m : Int) < (es.length : Int)) = false := by simp; omega
      have hfin := rj_trunc a4 p hpT
      clear hT2 f4 i4 a4 hcont HOR
      have HFIN := Lib.hid hfin
      have HEND := Lib.hid hend
      have HTT := Lib.hid hTT
      clear hfin hend hTT
      go_wp2_with fail
      refine HFIN.out.mono ?_
      rintro e w9 ⟨rfl, j9⟩
      have J9 := Lib.hid (HEND.out _ _ _ _ j9)
      clear j9
      go_wp2_with fail
      go_end0
      rw [← HTT.out]
      exact ⟨rfl, J9.out⟩

theorem RJTo.own {w0 w1 w' : World} {F : Nat → Prop} {j d : Nat} {xs : List UInt8} {k : Nat} {s : Js} (h : RJTo w1 F j d xs k s w') (hf : Fr No w0 w1) (hN : ∀ i, F i → w0.heap.size ≤ i) : ∃ F', RJAt w' F' j d xs k s ∧ (∀ i, F' i → w0.heap.size ≤ i) ∧ Fr No w0 w' := by
  obtain ⟨F', g1, g2, g3⟩ := h
  exact ⟨F', g1, fun i hi => (g2 i hi).elim (fun h => hN i h) (fun h => Nat.le_trans hf.size h), hf.transNew g3 hN⟩

set_option maxHeartbeats 1000000 in
theorem rj_open (A : Option Addr) (m c : Nat) (r : List UInt8) (w : World) (B : Nat) (hA : A = none → m = 0) (hr : Rd w B A (r.map bv)) (hm : r.length = m) (hB : B ≤ w.heap.size) (hsz : m ≤ 1000000000000) :
    Calls Try.prog 33 #[.slice A m c] w fun e w' => ∃ j d F, e = .returned (.pointer (some ⟨j, 0, none⟩)) ∧ RJAt w' F j d (r.take (playJ r).1) (min r.length (playJ r).1) (playJ r).2 ∧ (∀ i, F i → w.heap.size ≤ i) ∧ Fr No w w' := by
  have hrd := fun V (hf : Fr No w V) => hr.frNo hf hB
  clear hr
  have HRD := Lib.hid hrd
  clear hrd
  go_enter Try.func33, Try.ntmps33
  go_wp2_with fail
  refine (rj_new w).mono ?_
  rintro e w1 ⟨j, d, F, rfl, a1, n1, f1⟩
  obtain ⟨A1, c1, Fd, h1, h2, h3, h4, h5, h6, h7, h8, d0, d1, d2, d3, hn⟩ := a1.open_
  have hfin := fun V' (hd : DskTo TRDisk w1 Fd d r 0 V') => RJTo.own (RJAt.disk h1 h2 h3 h5 h6 h7 h8 hd) f1 n1
  have hap := rdisk_append w1 Fd d [] 0 h4 A m c r B hA (HRD.out _ f1) (Nat.le_trans hB f1.size) hm (by simp; omega)
  rw [List.nil_append] at hap
  clear a1 h1 h2 h3 h4 h5 h6 h7 h8 hn d1 d2 d3 n1 f1
  have HFIN := Lib.hid hfin
  have HAP := Lib.hid hap
  clear hfin hap
  go_wp2_with fail
  refine HAP.out.mono ?_
  rintro e w2 ⟨rfl, t2⟩
  obtain ⟨F2, a2, n2, f2⟩ := HFIN.out _ t2
  clear t2 HFIN HAP d0
  obtain ⟨A1, c1, Fd, h1, h2, h3, h4, h5, h6, h7, h8, d0, d1, d2, d3, hn⟩ := a2.open_
  have hfin := fun V' (hd : DskTo TRDisk w2 Fd d r r.length V') => RJTo.own (RJAt.disk h1 h2 h3 h5 h6 h7 h8 hd) f2 n2
  have hsy := rdisk_sync w2 Fd d r 0 h4
  clear a2 h1 h2 h3 h4 h5 h6 h7 h8 hn d1 d2 d3 n2 f2
  have HFIN := Lib.hid hfin
  have HSY := Lib.hid hsy
  clear hfin hsy
  go_wp2_with fail
  refine HSY.out.mono ?_
  rintro e w3 ⟨rfl, t3⟩
  obtain ⟨F3, a3, n3, f3⟩ := HFIN.out _ t3
  have hcr := rj_crash a3 0 (by omega)
  rw [crashN_self, List.take_length] at hcr
  have hfin2 := fun V xs m s (h : RJTo w3 F3 j d xs m s V) => h.own f3 n3
  clear t3 HFIN HSY d0 a3 n3 f3
  have HCR := Lib.hid hcr
  have HFIN2 := Lib.hid hfin2
  clear hcr hfin2
  go_wp2_with fail
  refine HCR.out.mono ?_
  rintro e w4 ⟨rfl, t4⟩
  obtain ⟨G4, a4, n4, f4⟩ := HFIN2.out _ _ _ _ t4
  clear t4
  have A4 := Lib.hid a4
  have N4 := Lib.hid n4
  have F4 := Lib.hid f4
  clear a4 n4 f4
  go_wp2_with fail
  go_ret
  exact ⟨j, d, G4, rfl, A4.out, N4.out, F4.out⟩
end Go.Proofs.Ytoiiblopnchljaa
