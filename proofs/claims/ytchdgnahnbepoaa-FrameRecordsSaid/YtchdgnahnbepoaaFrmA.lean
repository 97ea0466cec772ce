/-
  Rows of byte strings; the contracts of All, of the program and of the reference, and of the reference's Same.
-/
import Derived.Test.YtchdgnahnbepoaaFrmAP
import Derived.Test.YtchdgnahnbepoaaFrmT
import Derived.Test.YtchdgnahnbepoaaFrmRT
import Derived.Test.YtchdgnahnbepoaaSame
namespace Go.Proofs.Ytchdgnahnbepoaa
open Go.ChangeShapes Go.WideShapes Go.ChangeAt Go.RowKit
set_option linter.unusedVariables false

/-- A byte string in memory. -/
structure BRow where
  A : Option Addr
  c : Nat
  b : List UInt8
abbrev BRow.v (e : BRow) : Value := .slice e.A e.b.length e.c
structure BRow.ok (w : World) (e : BRow) : Prop where
  nil_ : e.A = none → e.b.length = 0
  room : e.b.length ≤ e.c
  rd : Rd w w.heap.size e.A (e.b.map bv)
/-- A slice of byte strings. -/
def RowsAt (w : World) (A : Option Addr) (rs : List (List UInt8)) : Prop := ∃ es : List BRow, es.map (·.b) = rs ∧ Rd w w.heap.size A (es.map BRow.v) ∧ ∀ e ∈ es, e.ok w

theorem BRow.ok.no {w w' : World} {e : BRow} (h : e.ok w) (hf : Fr No w w') : e.ok w' := ⟨h.nil_, h.room, (h.rd.frNo hf (Nat.le_refl _)).mono hf.size⟩
theorem RowsAt.no {w w' : World} {A : Option Addr} {rs : List (List UInt8)} (h : RowsAt w A rs) (hf : Fr No w w') : RowsAt w' A rs := by
  obtain ⟨es, h1, h2, h3⟩ := h
  exact ⟨es, h1, (h2.frNo hf (Nat.le_refl _)).mono hf.size, fun e he => (h3 e he).no hf⟩
theorem RowsAt.nil (w : World) (A : Option Addr) : RowsAt w A [] := ⟨[], rfl, .inl rfl, fun e he => by cases he⟩
/-- Element i, for every later world. -/
theorem RowsAt.at_ {w : World} {A : Option Addr} {rs : List (List UInt8)} (h : RowsAt w A rs) {i : Nat} (hi : i < rs.length) :
    ∃ (b off : Nat) (e : BRow), A = some ⟨b, off, none⟩ ∧ rs[i]? = some e.b ∧ e.ok w ∧ ∀ w' : World, Fr No w w' → w'.cell? ⟨b, off + i, none⟩ = some e.v := by
  obtain ⟨es, rfl, h2, h3⟩ := h
  rw [List.length_map] at hi
  obtain ⟨b, off, hA, hb, hc⟩ := h2.at_ (by rw [List.length_map]; omega)
  refine ⟨b, off, es[i], hA, by simp [List.getElem?_eq_getElem hi], h3 _ (List.getElem_mem hi), fun w' hf => ?_⟩
  have := hc i (by rw [List.length_map]; exact hi)
  rw [List.getElem_map] at this
  rw [hf.cell (p := ⟨b, off + i, none⟩) hb (fun h => h), this]

/-- Two owned rows of different element types lie in different blocks. -/
theorem Own.ne_own {w : World} {F G : Nat → Prop} {e e' : TypeId} {v v' : Value} {xs ys : List Value} (h : Own w F e v xs) (h' : Own w G e' v' ys) (hne : e ≠ e') : ∀ g, v.ownBlock = some g → v'.ownBlock ≠ some g := by
  intro g hg
  rcases h'.1.2 with ⟨rfl, _⟩ | ⟨g', cap, cur, rfl, _, hh, _⟩
  · exact fun h => by cases h
  · intro hk
    have hgg : g' = g := by simpa [Value.ownBlock] using hk
    subst hgg
    exact h.ne_blk (g := g') (t := e') (cs := cur) hh hne g' hg rfl

theorem rows_info : (Try.prog.info? 22).map (fun i => (i.zero, i.size, i.bytes)) = some (some (.slice none 0 0), 1, 24) := by kernel_rfl

/-- What All returns. -/
def AllTo (w : World) (t : AllT) (e : Ending) (w' : World) : Prop :=
  ∃ A c, e = .returned (.tuple #[.slice A t.r.length c, .int .i64 (t.k : Int)]) ∧ (A = none → t.r.length = 0) ∧ t.r.length ≤ c ∧ RowsAt w' A t.r ∧ Fr No w w'

/-- The rows so far: a row of the call's own over rows of its own. -/
structure OwnRows (w0 w : World) (v : Value) (es : List BRow) : Prop where
  row : Own w (fun i => w0.heap.size ≤ i) 22 v (es.map BRow.v)
  each : ∀ e ∈ es, Own w (fun i => w0.heap.size ≤ i) 5 e.v (e.b.map bv)
theorem OwnRows.no {w0 w w' : World} {v : Value} {es : List BRow} (h : OwnRows w0 w v es) (hf : Fr No w w') : OwnRows w0 w' v es := ⟨h.row.frNo hf, fun e he => (h.each e he).frNo hf⟩
theorem OwnRows.rows {w0 w : World} {A : Option Addr} {n c : Nat} {es : List BRow} (h : OwnRows w0 w (.slice A n c) es) : RowsAt w A (es.map (·.b)) :=
  ⟨es, rfl, h.row.rd, fun e he => ⟨(h.each e he).len.2, (h.each e he).cap.1, (h.each e he).rd⟩⟩
theorem OwnRows.snoc {w0 w w' : World} {v v' : Value} {es : List BRow} {e : BRow} {n : Nat} (h : OwnRows w0 w v es) (hB : w0.heap.size ≤ w.heap.size) (he : Own w (fun i => w0.heap.size ≤ i) 5 e.v (e.b.map bv)) (hn : es.length = n)
    (ha : Appended w 0 22 v n (es.map BRow.v) [e.v] 1 v' w') : OwnRows w0 w' v' (es ++ [e]) ∧ Fr (fun i => w0.heap.size ≤ i) w w' := by
  obtain ⟨h1, h2⟩ := h.row.appendedNew hB (by rw [List.length_map]; exact hn) rfl ha
  have hf : Fr (fun i => v.ownBlock = some i) w w' := (Fr.refl _ w).grown ha.2.1 fun k hk => .inl hk
  refine ⟨⟨by rw [List.map_append]; exact h1, fun x hx => ?_⟩, h2⟩
  have hx' : Own w (fun i => w0.heap.size ≤ i) 5 x.v (x.b.map bv) := by
    rcases List.mem_append.1 hx with hx | hx
    · exact h.each x hx
    · rw [List.mem_singleton.1 hx]; exact he
  exact hx'.fr' hf fun g hg hv => hx'.ne_own h.row (by decide) g hg hv

theorem same_rows (A A2 : Option Addr) (n c m c2 : Nat) (rs qs : List (List UInt8)) (w : World) (hn : rs.length = n) (hm : qs.length = m) (hr : RowsAt w A rs) (hq : RowsAt w A2 qs) (hM : n ≤ 1000000000000) :
    Calls Try.prog 21 #[.slice A n c, .slice A2 m c2] w fun e w' => e = .returned (.bool (rs == qs)) ∧ ∃ j, w' = w.drewN j := by
  by_cases hnm : n = m
  · subst hnm
    have HR := Lib.hid hr
    have HQ := Lib.hid hq
    have HN := Lib.hid hn
    have HM := Lib.hid hm
    clear hr hq hn hm
    go_enter Try.func21, Try.ntmps21
    go_wp2_with fail
    go_loopw [5] (fun i wr => ∃ k j : Nat, k ≤ n ∧ i = .int .i64 k ∧ rs.take k = qs.take k ∧ wr = w.drewN j) (fun i _ => n - (intOf i).toNat)
    case atStart => exact ⟨0, 0, Nat.zero_le _, rfl, rfl, rfl⟩
    case round =>
      obtain ⟨k, j, hk, rfl, hp, hwr⟩ := hrel
      have hfr : Fr No w wr := by rw [hwr]; exact (Fr.refl _ _).drewN j
      have HWR := Lib.hid hwr
      clear hwr
      by_cases hlt : k < n
      · obtain ⟨b, off, e, rfl, he, hok, hc⟩ := HR.out.at_ (i := k) (by rw [HN.out]; exact hlt)
        obtain ⟨b2, off2, e2, rfl, he2, hok2, hc2⟩ := HQ.out.at_ (i := k) (by rw [HM.out]; exact hlt)
        have x1 := hc wr hfr
        have x2 := hc2 wr hfr
        have hS : ∀ q : Nat, Calls Try.prog 12 #[.slice e.A e.b.length e.c, .slice e2.A e2.b.length e2.c] (wr.drewN q) fun r w' => r = .returned (.bool (e.b == e2.b)) ∧ wr.drewN q = w' := fun q => same_bytes e.A e2.A _ e.c _ e2.c e.b e2.b _ _ _ hok.nil_ rfl ((hok.no hfr).rd.drewN q) hok2.nil_ rfl ((hok2.no hfr).rd.drewN q)
        have hi0 : (0 : Int) ≤ (k : Int) := by omega
        have hi1 : (k : Int) < (n : Int) := by omega
        have hx : ∀ h : rs = qs, e.b = e2.b := fun h => by
          rw [h, he2] at he
          injection he with he
          exact he.symm
        have htk : e.b = e2.b → rs.take (k + 1) = qs.take (k + 1) := fun h => by rw [List.take_add_one, List.take_add_one, he, he2, hp, h]
        have HS := Lib.hid hS
        have HX := Lib.hid hx
        have HTK := Lib.hid htk
        have HE := Lib.hid he
        have HE2 := Lib.hid he2
        have HP := Lib.hid hp
        clear hS hx htk he he2 hp
        clear hc hc2 hok hok2
        by_cases hxy : e.b = e2.b
        · have ht : (e.b == e2.b) = true := by simp [hxy]
          have HXY := Lib.hid hxy
          clear hxy
          go_wp2_with fail
          go_quiet ((go_at_call 12; exact quiet_same (HS.out _)))
          go_wp2_with fail
          go_roundw
          case rel => exact ⟨k + 1, j + nq, by omega, by go_num, HTK.out HXY.out, by rw [HWR.out, World.drewN_drewN]⟩
          case measure => simp [intOf]; omega
        · have ht : (e.b == e2.b) = false := by simp [hxy]
          have HXY := Lib.hid hxy
          clear hxy
          go_wp2_with fail
          go_quiet ((go_at_call 12; exact quiet_same (HS.out _)))
          go_wp2_with fail
          go_ret
          refine ⟨ret_bool ?_, j + nq, by rw [HWR.out, World.drewN_drewN]⟩
          symm
          rw [beq_eq_false_iff_ne]
          exact fun h => HXY.out (HX.out h)
      · go_wp2_with fail
        go_ret
        refine ⟨ret_bool ?_, j, HWR.out⟩
        symm
        rw [beq_iff_eq]
        rw [List.take_of_length_le (by rw [HN.out]; omega), List.take_of_length_le (by rw [HM.out]; omega)] at hp
        exact hp
  · have ht : ((n : Int) == (m : Int)) = false := by simp; omega
    clear hr hq
    have HN := Lib.hid hn
    have HM := Lib.hid hm
    clear hn hm
    go_enter Try.func21, Try.ntmps21
    go_wp2_with fail
    go_ret
    refine ⟨ret_bool ?_, 0, rfl⟩
    symm
    rw [beq_eq_false_iff_ne]
    intro h
    subst h
    exact hnm (HN.out.symm.trans HM.out)

set_option maxHeartbeats 1000000 in
theorem all_any (A : Option Addr) (n c : Nat) (key : Int) (l : List UInt8) (w : World) (B : Nat) (hA : A = none → n = 0) (hl : l.length = n) (hr : Rd w B A (l.map bv)) (hB : B ≤ w.heap.size) (hsz : n ≤ 1000000000000) (hnc : n ≤ c) :
    Calls Try.prog 19 #[.slice A n c, .int .i64 key] w (AllTo w (allT key l)) := by
  obtain ⟨i0, hi0, hz0, hz1, hz2⟩ := info_parts rows_info
  obtain ⟨u0, hu0, gz0, gz1, gz2⟩ := info_parts bytes_info
  obtain ⟨T, hT⟩ : ∃ T, allT key l = T := ⟨_, rfl⟩
  rw [hT]
  unfold allT at hT
  have HA := Lib.hid hA
  have HL := Lib.hid hl
  have HR := Lib.hid hr
  have HT := Lib.hid hT
  clear hA hl hr hT
  go_enter Try.func19, Try.ntmps19
  go_wp2_with fail
  go_loopw [6, 7] (fun v p wr => ∃ (pp f : Nat) (A' : Option Addr) (c' : Nat) (es : List BRow), p = .int .i64 pp ∧ pp ≤ n ∧ n < f + pp ∧ es.length ≤ pp ∧ v = .slice A' es.length c' ∧ OwnRows w wr (.slice A' es.length c') es ∧ Fr No w wr ∧ T = allG key f l pp (es.map (·.b))) (fun _ p _ => n - (intOf p).toNat)
  case atStart => exact ⟨0, n + 1, none, 0, [], rfl, Nat.zero_le _, by omega, by simp, rfl, ⟨Own.nil _ _ _, fun e he => by cases he⟩, Fr.refl _ _, by rw [← HT.out, HL.out]; rfl⟩
  case round =>
    obtain ⟨pp, f, A', c', es, rfl, hpp, hf, hel, rfl, ho, hfr, hg⟩ := hrel
    have hs1 : w.heap.size ≤ wr.heap.size := hfr.size
    clear HT
    by_cases hlt : pp < n
    · obtain ⟨A2, hs2, hn2, hr2⟩ := run_from (P := Try.prog) 22 5 Try.underlying22 u0 hu0 gz1 A n c pp hpp HA.out
      have hr3 := hr2 wr B (l.map bv) (by rw [List.length_map, HL.out]; exact hnc) (HR.out.frNo hfr hB)
      rw [← List.map_drop] at hr3
      have hC2 := frtake_any A2 (n - pp) (c - pp) key (l.drop pp) wr B hn2 (by rw [List.length_drop]; exact congrArg (· - pp) HL.out) hr3 (by omega) (by omega)
      obtain ⟨f, rfl⟩ : ∃ f', f = f' + 1 := ⟨f - 1, by omega⟩
      rw [allG, if_pos (by rw [HL.out]; exact hlt)] at hg
      have hk2 := takeFr_k key (l.drop pp)
      rw [List.length_drop, HL.out] at hk2
      generalize takeFr key (l.drop pp) = t at *
      obtain ⟨tp, tk, te⟩ := t
      simp only at hk2 hg
      clear hr2 hr3 hn2
      have HC2 := Lib.hid hC2
      clear hC2
      by_cases h5 : te = 0
      · rw [if_pos h5] at hg
        obtain ⟨h6, h7⟩ := hk2 h5
        subst h5
        clear hk2
        have HG := Lib.hid hg
        have HO := Lib.hid ho
        have HFR := Lib.hid hfr
        clear hg ho hfr
        go_wp2_with fail
        refine HC2.out.mono ?_
        rintro e w2 ⟨A3, c3, rfl, o3, f3⟩
        simp only at o3
        have hs3 := f3.size
        have Q3 := Lib.hid (HO.out.no f3)
        have F3 := Lib.hid (HFR.out.transNo f3)
        have o3' := o3.mono (G := fun i => w.heap.size ≤ i) fun i hi => Nat.le_trans hs1 hi
        have O3' := Lib.hid o3'
        clear o3'
        clear o3 f3
        go_wp2_with (at_builtin; refine wpList_append_rd _ rfl (.tmp 26) (.tmp 28) _ rfl 0 22 i0 _ 24 Try.underlying35 hi0 hz0 hz1 hz2 rfl _ es.length (es.map BRow.v) rfl ?c0 (w2.heap.size + 1) (some ⟨w2.heap.size, 0, none⟩) 1 1 [(⟨A3, c3, tp⟩ : BRow).v] rfl (fun h => by cases h) ?c1 rfl ?c2 ?c4 ?c5 (Nat.zero_le _) ?_)
        case c0 => exact (Q3.out.no (fr_alloc w2 _)).row.own (by rw [List.length_map])
        case c1 => exact Rd.new w2 [_] 22 rfl
        case c2 => intro u hu; rw [List.mem_singleton.1 hu]; rfl
        case c4 => unfold maxLen; omega
        case c5 => omega
        intro v4 w4 happ
        obtain ⟨o4, f4⟩ := (Q3.out.no (fr_alloc w2 (.cells #[.slice A3 tp.length c3] 22))).snoc (e := ⟨A3, c3, tp⟩) (by simp; omega) (O3'.out.frNo (fr_alloc w2 _)) rfl happ
        obtain ⟨A4, c4, hv4, n4⟩ := o4.row.form
        subst hv4
        rw [List.length_map] at o4 ⊢
        have e4 : (es ++ [⟨A3, c3, tp⟩] : List BRow).length = es.length + 1 := by simp
        have O4 := Lib.hid (o4)
        have F4 := Lib.hid ((F3.out.alloc (.cells #[.slice A3 tp.length c3] 22)).transNew f4 fun i hi => hi)
        clear happ o4 f4 n4 hs2 HC2
        go_wp2_with fail
        go_roundw
        case rel => exact ⟨pp + tk, f, A4, c4, es ++ [⟨A3, c3, tp⟩], by go_num, by omega, by omega, by simp; omega, rfl, O4.out, F4.out, by rw [HG.out]; simp⟩
        case measure => simp [intOf]; omega
      · rw [if_neg h5] at hg
        subst hg
        have b1 : (te == 0) = false := by simp [h5]
        have b1' : (te != 0) = true := by simp [h5]
        clear h5 hk2
        have HFR := Lib.hid hfr
        have HO := Lib.hid ho
        clear hfr ho
        go_wp2_with fail
        refine HC2.out.mono ?_
        rintro e w2 ⟨A3, c3, rfl, o3, f3⟩
        have Q3 := Lib.hid (HO.out.no f3)
        have F3 := Lib.hid (HFR.out.transNo f3)
        clear o3 f3
        go_wp2_with fail
        go_ret2
        refine ⟨A', c', ?_, ?_, ?_, Q3.out.rows, F3.out⟩
        · simp
        · rw [List.length_map]; exact fun h => by have := Q3.out.row.len.2 h; exact this
        · rw [List.length_map]; exact Q3.out.row.cap.1
    · have hge : T = ⟨es.map (·.b), pp⟩ := by
        rw [hg]
        rcases f with _ | f
        · rfl
        · rw [allG, if_neg (by rw [HL.out]; exact hlt)]
      subst hge
      clear hg
      have HFR := Lib.hid hfr
      have HO := Lib.hid ho
      clear hfr ho
      go_wp2_with fail
      go_ret2
      refine ⟨A', c', ?_, ?_, ?_, HO.out.rows, HFR.out⟩
      · simp
      · rw [List.length_map]; exact fun h => by have := HO.out.row.len.2 h; exact this
      · rw [List.length_map]; exact HO.out.row.cap.1

set_option maxHeartbeats 1000000 in
theorem rall_any (A : Option Addr) (n c : Nat) (key : Int) (l : List UInt8) (w : World) (B : Nat) (hA : A = none → n = 0) (hl : l.length = n) (hr : Rd w B A (l.map bv)) (hB : B ≤ w.heap.size) (hsz : n ≤ 1000000000000) (hnc : n ≤ c) :
    Calls Try.prog 20 #[.slice A n c, .int .i64 key] w (AllTo w (allT key l)) := by
  obtain ⟨i0, hi0, hz0, hz1, hz2⟩ := info_parts rows_info
  obtain ⟨u0, hu0, gz0, gz1, gz2⟩ := info_parts bytes_info
  obtain ⟨T, hT⟩ : ∃ T, allT key l = T := ⟨_, rfl⟩
  rw [hT]
  unfold allT at hT
  have HA := Lib.hid hA
  have HL := Lib.hid hl
  have HR := Lib.hid hr
  have HT := Lib.hid hT
  clear hA hl hr hT
  go_enter Try.func20, Try.ntmps20
  go_wp2_with fail
  go_loopw [6, 7] (fun v p wr => ∃ (pp f : Nat) (A' : Option Addr) (c' : Nat) (es : List BRow), p = .int .i64 pp ∧ pp ≤ n ∧ n < f + pp ∧ es.length ≤ pp ∧ v = .slice A' es.length c' ∧ OwnRows w wr (.slice A' es.length c') es ∧ Fr No w wr ∧ T = allG key f l pp (es.map (·.b))) (fun _ p _ => n - (intOf p).toNat)
  case atStart => exact ⟨0, n + 1, none, 0, [], rfl, Nat.zero_le _, by omega, by simp, rfl, ⟨Own.nil _ _ _, fun e he => by cases he⟩, Fr.refl _ _, by rw [← HT.out, HL.out]; rfl⟩
  case round =>
    obtain ⟨pp, f, A', c', es, rfl, hpp, hf, hel, rfl, ho, hfr, hg⟩ := hrel
    have hs1 : w.heap.size ≤ wr.heap.size := hfr.size
    clear HT
    by_cases hlt : pp < n
    · obtain ⟨A2, hs2, hn2, hr2⟩ := run_from (P := Try.prog) 22 5 Try.underlying22 u0 hu0 gz1 A n c pp hpp HA.out
      have hr3 := hr2 wr B (l.map bv) (by rw [List.length_map, HL.out]; exact hnc) (HR.out.frNo hfr hB)
      rw [← List.map_drop] at hr3
      have hC2 := rfrtake_any A2 (n - pp) (c - pp) key (l.drop pp) wr B hn2 (by rw [List.length_drop]; exact congrArg (· - pp) HL.out) hr3 (Nat.le_trans hB hs1) (by omega) (by omega)
      obtain ⟨f, rfl⟩ : ∃ f', f = f' + 1 := ⟨f - 1, by omega⟩
      rw [allG, if_pos (by rw [HL.out]; exact hlt)] at hg
      have hk2 := takeFr_k key (l.drop pp)
      rw [List.length_drop, HL.out] at hk2
      generalize takeFr key (l.drop pp) = t at *
      obtain ⟨tp, tk, te⟩ := t
      simp only at hk2 hg
      clear hr2 hr3 hn2
      have HC2 := Lib.hid hC2
      clear hC2
      by_cases h5 : te = 0
      · rw [if_pos h5] at hg
        obtain ⟨h6, h7⟩ := hk2 h5
        subst h5
        clear hk2
        have HG := Lib.hid hg
        have HO := Lib.hid ho
        have HFR := Lib.hid hfr
        clear hg ho hfr
        go_wp2_with fail
        refine HC2.out.mono ?_
        rintro e w2 ⟨A3, c3, rfl, o3, f3⟩
        simp only at o3
        have hs3 := f3.size
        have Q3 := Lib.hid (HO.out.no f3)
        have F3 := Lib.hid (HFR.out.transNo f3)
        have o3' := o3.mono (G := fun i => w.heap.size ≤ i) fun i hi => Nat.le_trans hs1 hi
        have O3' := Lib.hid o3'
        clear o3'
        clear o3 f3
        go_wp2_with (at_builtin; refine wpList_append_rd _ rfl (.tmp 26) (.tmp 28) _ rfl 0 22 i0 _ 24 Try.underlying35 hi0 hz0 hz1 hz2 rfl _ es.length (es.map BRow.v) rfl ?c0 (w2.heap.size + 1) (some ⟨w2.heap.size, 0, none⟩) 1 1 [(⟨A3, c3, tp⟩ : BRow).v] rfl (fun h => by cases h) ?c1 rfl ?c2 ?c4 ?c5 (Nat.zero_le _) ?_)
        case c0 => exact (Q3.out.no (fr_alloc w2 _)).row.own (by rw [List.length_map])
        case c1 => exact Rd.new w2 [_] 22 rfl
        case c2 => intro u hu; rw [List.mem_singleton.1 hu]; rfl
        case c4 => unfold maxLen; omega
        case c5 => omega
        intro v4 w4 happ
        obtain ⟨o4, f4⟩ := (Q3.out.no (fr_alloc w2 (.cells #[.slice A3 tp.length c3] 22))).snoc (e := ⟨A3, c3, tp⟩) (by simp; omega) (O3'.out.frNo (fr_alloc w2 _)) rfl happ
        obtain ⟨A4, c4, hv4, n4⟩ := o4.row.form
        subst hv4
        rw [List.length_map] at o4 ⊢
        have e4 : (es ++ [⟨A3, c3, tp⟩] : List BRow).length = es.length + 1 := by simp
        have O4 := Lib.hid (o4)
        have F4 := Lib.hid ((F3.out.alloc (.cells #[.slice A3 tp.length c3] 22)).transNew f4 fun i hi => hi)
        clear happ o4 f4 n4 hs2 HC2
        go_wp2_with fail
        go_roundw
        case rel => exact ⟨pp + tk, f, A4, c4, es ++ [⟨A3, c3, tp⟩], by go_num, by omega, by omega, by simp; omega, rfl, O4.out, F4.out, by rw [HG.out]; simp⟩
        case measure => simp [intOf]; omega
      · rw [if_neg h5] at hg
        subst hg
        have b1 : (te == 0) = false := by simp [h5]
        have b1' : (te != 0) = true := by simp [h5]
        clear h5 hk2
        have HFR := Lib.hid hfr
        have HO := Lib.hid ho
        clear hfr ho
        go_wp2_with fail
        refine HC2.out.mono ?_
        rintro e w2 ⟨A3, c3, rfl, o3, f3⟩
        have Q3 := Lib.hid (HO.out.no f3)
        have F3 := Lib.hid (HFR.out.transNo f3)
        clear o3 f3
        go_wp2_with fail
        go_ret2
        refine ⟨A', c', ?_, ?_, ?_, Q3.out.rows, F3.out⟩
        · simp
        · rw [List.length_map]; exact fun h => by have := Q3.out.row.len.2 h; exact this
        · rw [List.length_map]; exact Q3.out.row.cap.1
    · have hge : T = ⟨es.map (·.b), pp⟩ := by
        rw [hg]
        rcases f with _ | f
        · rfl
        · rw [allG, if_neg (by rw [HL.out]; exact hlt)]
      subst hge
      clear hg
      have HFR := Lib.hid hfr
      have HO := Lib.hid ho
      clear hfr ho
      go_wp2_with fail
      go_ret2
      refine ⟨A', c', ?_, ?_, ?_, HO.out.rows, HFR.out⟩
      · simp
      · rw [List.length_map]; exact fun h => by have := HO.out.row.len.2 h; exact this
      · rw [List.length_map]; exact HO.out.row.cap.1

end Go.Proofs.Ytchdgnahnbepoaa
