/-
  Several texts in one: QuZ, QvA, QvB, QvC.
-/
import Derived.Test.YtokblidfekbeeaaZ28
import Derived.Lib.SliceRun
/- Copies of slices: slices.Clone of entries, of logged entries, of messages. -/
namespace Go.Proofs.Ytokblidfekbeeaa
open Go.ChangeShapes Go.WideShapes Go.ChangeAt Go.RowKit
set_option linter.unusedVariables false
/-- A copy of a row. -/
def CloneTo (w : World) (T : TypeId) (size n : Nat) (xs : List Value) (e : Ending) (w' : World) : Prop :=
  ∃ A c, e = .returned (.slice A n c) ∧ OwnN w' (fun b => w.heap.size ≤ b) T size (.slice A n c) n xs ∧ Fr No w w'
set_option maxRecDepth 100000 in
set_option maxHeartbeats 4000000 in
theorem clone_Entry (w : World) (A : Option Addr) (n c : Nat) (xs : List Value) (hA : A = none → n = 0) (hr : Rd w w.heap.size A xs) (hn : xs.length = n * 9) (h1 : ∀ u ∈ xs, u.oneCell' = true) (hl : n ≤ 1000000) : Calls Try.prog 34 #[.slice A n c] w (CloneTo w TEq 9 n xs) := by
  obtain ⟨i1, hi1, hz0, hz1, hz2⟩ := info_parts enq_info
  have hnil : ∀ (W : World) (a : Option Addr) (n c n' c' : Nat), (binOp .eql 39 (.slice a n c) (.slice none n' c')).run Try.prog W = .ok (.bool a.isNone) W := fun W a n c n' c' => Lib.run_eql_slice_nil W _ TEq a n c n' c' rfl
  rcases A with _ | A
  · obtain rfl : n = 0 := hA rfl
    obtain rfl : xs = [] := List.eq_nil_of_length_eq_zero (by simpa using hn)
    clear hA hr hn h1
    go_enter Try.func34, Try.ntmps34
    go_wp2_with fail
    go_ret
    exact ⟨none, 0, rfl, OwnN.nil _ _ _ _, Fr.refl _ _⟩
  · have hown : OwnN (w.alloc (.cells #[] TEq)) (fun i => w.heap.size ≤ i) TEq 9 (.slice (some ⟨w.heap.size, 0, none⟩) 0 0) 0 [] := ⟨World.ownsRow_made w #[] 0 (Nat.zero_le _) (Nat.zero_le _) rfl, fun g hg => by simp [Value.ownBlock] at hg; omega⟩
    have hr2 := hr.frNo (fr_alloc w (.cells #[] TEq)) (Nat.le_refl _)
    clear hA hr
    have HR2 := Lib.hid hr2
    have H1 := Lib.hid h1
    have HN := Lib.hid hn
    have HOWN := Lib.hid hown
    clear hr2 h1 hn hown
    go_enter Try.func34, Try.ntmps34
    go_wp2_with (at_builtin; refine wpList_append_rdN _ rfl (.tmp 5) (.tmp 6) _ rfl 0 TEq i1 _ 9 72 Try.underlying39 hi1 hz0 hz1 hz2 rfl (by decide) (.slice (some ⟨w.heap.size, 0, none⟩) 0 0) 0 [] rfl HOWN.out.1 w.heap.size (some A) n c xs rfl (fun h => by cases h) HR2.out HN.out H1.out (by unfold maxLen; omega) (by omega) (Nat.zero_le _) ?_)
    intro v1 w2 happ
    obtain ⟨A4, c4, rfl, n4⟩ := ownsRow_slice_form happ.1
    clear n4
    obtain ⟨o1, f1⟩ := HOWN.out.appended happ
    go_wp2_with fail
    go_ret
    rw [Nat.zero_add] at o1 ⊢
    exact ⟨A4, c4, rfl, o1.mono fun b hb => (by rcases hb with hb | hb; exact hb; simp at hb; omega), (fr_alloc w _).transNew f1 fun i hi => hi⟩
set_option maxRecDepth 100000 in
set_option maxHeartbeats 4000000 in
theorem clone_Logged (w : World) (A : Option Addr) (n c : Nat) (xs : List Value) (hA : A = none → n = 0) (hr : Rd w w.heap.size A xs) (hn : xs.length = n * 10) (h1 : ∀ u ∈ xs, u.oneCell' = true) (hl : n ≤ 1000000) : Calls Try.prog 74 #[.slice A n c] w (CloneTo w TLg 10 n xs) := by
  obtain ⟨i1, hi1, hz0, hz1, hz2⟩ := info_parts log_info
  have hnil : ∀ (W : World) (a : Option Addr) (n c n' c' : Nat), (binOp .eql 36 (.slice a n c) (.slice none n' c')).run Try.prog W = .ok (.bool a.isNone) W := fun W a n c n' c' => Lib.run_eql_slice_nil W _ TLg a n c n' c' rfl
  rcases A with _ | A
  · obtain rfl : n = 0 := hA rfl
    obtain rfl : xs = [] := List.eq_nil_of_length_eq_zero (by simpa using hn)
    clear hA hr hn h1
    go_enter Try.func74, Try.ntmps74
    go_wp2_with fail
    go_ret
    exact ⟨none, 0, rfl, OwnN.nil _ _ _ _, Fr.refl _ _⟩
  · have hown : OwnN (w.alloc (.cells #[] TLg)) (fun i => w.heap.size ≤ i) TLg 10 (.slice (some ⟨w.heap.size, 0, none⟩) 0 0) 0 [] := ⟨World.ownsRow_made w #[] 0 (Nat.zero_le _) (Nat.zero_le _) rfl, fun g hg => by simp [Value.ownBlock] at hg; omega⟩
    have hr2 := hr.frNo (fr_alloc w (.cells #[] TLg)) (Nat.le_refl _)
    clear hA hr
    have HR2 := Lib.hid hr2
    have H1 := Lib.hid h1
    have HN := Lib.hid hn
    have HOWN := Lib.hid hown
    clear hr2 h1 hn hown
    go_enter Try.func74, Try.ntmps74
    go_wp2_with (at_builtin; refine wpList_append_rdN _ rfl (.tmp 5) (.tmp 6) _ rfl 0 TLg i1 _ 10 80 Try.underlying36 hi1 hz0 hz1 hz2 rfl (by decide) (.slice (some ⟨w.heap.size, 0, none⟩) 0 0) 0 [] rfl HOWN.out.1 w.heap.size (some A) n c xs rfl (fun h => by cases h) HR2.out HN.out H1.out (by unfold maxLen; omega) (by omega) (Nat.zero_le _) ?_)
    intro v1 w2 happ
    obtain ⟨A4, c4, rfl, n4⟩ := ownsRow_slice_form happ.1
    clear n4
    obtain ⟨o1, f1⟩ := HOWN.out.appended happ
    go_wp2_with fail
    go_ret
    rw [Nat.zero_add] at o1 ⊢
    exact ⟨A4, c4, rfl, o1.mono fun b hb => (by rcases hb with hb | hb; exact hb; simp at hb; omega), (fr_alloc w _).transNew f1 fun i hi => hi⟩
set_option maxRecDepth 100000 in
set_option maxHeartbeats 4000000 in
theorem clone_Message (w : World) (A : Option Addr) (n c : Nat) (xs : List Value) (hA : A = none → n = 0) (hr : Rd w w.heap.size A xs) (hn : xs.length = n * 9) (h1 : ∀ u ∈ xs, u.oneCell' = true) (hl : n ≤ 1000000) : Calls Try.prog 73 #[.slice A n c] w (CloneTo w TMs 9 n xs) := by
  obtain ⟨i1, hi1, hz0, hz1, hz2⟩ := info_parts ms_info
  have hnil : ∀ (W : World) (a : Option Addr) (n c n' c' : Nat), (binOp .eql 56 (.slice a n c) (.slice none n' c')).run Try.prog W = .ok (.bool a.isNone) W := fun W a n c n' c' => Lib.run_eql_slice_nil W _ TMs a n c n' c' rfl
  rcases A with _ | A
  · obtain rfl : n = 0 := hA rfl
    obtain rfl : xs = [] := List.eq_nil_of_length_eq_zero (by simpa using hn)
    clear hA hr hn h1
    go_enter Try.func73, Try.ntmps73
    go_wp2_with fail
    go_ret
    exact ⟨none, 0, rfl, OwnN.nil _ _ _ _, Fr.refl _ _⟩
  · have hown : OwnN (w.alloc (.cells #[] TMs)) (fun i => w.heap.size ≤ i) TMs 9 (.slice (some ⟨w.heap.size, 0, none⟩) 0 0) 0 [] := ⟨World.ownsRow_made w #[] 0 (Nat.zero_le _) (Nat.zero_le _) rfl, fun g hg => by simp [Value.ownBlock] at hg; omega⟩
    have hr2 := hr.frNo (fr_alloc w (.cells #[] TMs)) (Nat.le_refl _)
    clear hA hr
    have HR2 := Lib.hid hr2
    have H1 := Lib.hid h1
    have HN := Lib.hid hn
    have HOWN := Lib.hid hown
    clear hr2 h1 hn hown
    go_enter Try.func73, Try.ntmps73
    go_wp2_with (at_builtin; refine wpList_append_rdN _ rfl (.tmp 5) (.tmp 6) _ rfl 0 TMs i1 _ 9 88 Try.underlying56 hi1 hz0 hz1 hz2 rfl (by decide) (.slice (some ⟨w.heap.size, 0, none⟩) 0 0) 0 [] rfl HOWN.out.1 w.heap.size (some A) n c xs rfl (fun h => by cases h) HR2.out HN.out H1.out (by unfold maxLen; omega) (by omega) (Nat.zero_le _) ?_)
    intro v1 w2 happ
    obtain ⟨A4, c4, rfl, n4⟩ := ownsRow_slice_form happ.1
    clear n4
    obtain ⟨o1, f1⟩ := HOWN.out.appended happ
    go_wp2_with fail
    go_ret
    rw [Nat.zero_add] at o1 ⊢
    exact ⟨A4, c4, rfl, o1.mono fun b hb => (by rcases hb with hb | hb; exact hb; simp at hb; omega), (fr_alloc w _).transNew f1 fun i hi => hi⟩
end Go.Proofs.Ytokblidfekbeeaa
/- The program's quorum: Committed. -/
namespace Go.Proofs.Ytokblidfekbeeaa
open Go.ChangeShapes Go.WideShapes Go.ChangeAt Go.RowKit
set_option linter.unusedVariables false
theorem ent_ones (l : List En) : ∀ u ∈ entV l, u.oneCell' = true := by
  intro u hu
  obtain ⟨e, -, hu⟩ := List.mem_flatMap.1 hu
  exact ent_one e u hu
theorem OwnN.none_cap {w : World} {F : Nat → Prop} {e : TypeId} {size n : Nat} {xs : List Value} {A : Option Addr} {c : Nat} (h : OwnN w F e size (.slice A n c) n xs) : c = 0 ∨ A ≠ none := by
  rcases h.1.2 with ⟨hv, h0⟩ | ⟨g, cap, cur, hv, -⟩
  · injection hv with e1 e2 e3
    exact .inl e3
  · injection hv with e1 e2 e3
    exact .inr (by rw [e1]; simp)
section
variable {w w' : World} {lab lab' : Nat → Option Nat} {z n m : Nat} {pv : Nat → Nat} {q q1 : Qs} {F : Nat → Prop}
set_option maxHeartbeats 1000000 in
theorem q_Committed (h : QAt w lab z pv q n) : Calls Try.prog 16 #[.pointer (some ⟨z, 0, none⟩)] w (CloneTo w TEq 9 q.done.length (entV q.done)) := by
  obtain ⟨Ar, cr, NV, DV, vs, h1, h2, h3, h4⟩ := h.mem
  obtain ⟨A, c, rfl, hA⟩ := h4.form
  have hc := clone_Entry w A q.done.length c (entV q.done) hA h4.rd (entV_len _) (ent_ones _) (by have := h.ok.done; omega)
  have z2 : w.cell? ⟨z, 2, none⟩ = some (.slice A q.done.length c) := h1.cell 2
  have hzl := h.lt z 0 h.z0
  clear h h1 h2 h3 h4 hA
  generalize entV q.done = X at *
  generalize q.done.length = L at *
  have HC := Lib.hid hc
  clear hc
  go_enter Try.func16, Try.ntmps16
  go_wp2_with fail
  refine HC.out.mono ?_
  rintro e w1 m1
  have M := Lib.hid m1
  obtain ⟨A, c, rfl, -⟩ := m1
  go_wp2_with fail
  go_ret
  exact M.out
end
end Go.Proofs.Ytokblidfekbeeaa
/- The program's quorum: Net. So far: how many messages it returns. -/
namespace Go.Proofs.Ytokblidfekbeeaa
open Go.ChangeShapes Go.WideShapes Go.ChangeAt Go.RowKit
set_option linter.unusedVariables false
theorem lgz_ones (l : List Lg) : ∀ u ∈ logV l, u.oneCell' = true := by
  intro u hu
  obtain ⟨e, -, hu⟩ := List.mem_flatMap.1 hu
  exact log_one e u hu
theorem OwnN.poke {w : World} {F : Nat → Prop} {e : TypeId} {size g n c : Nat} {xs : List Value} (h : OwnN w F e size (.slice (some ⟨g, 0, none⟩) n c) n xs) {o : Nat} (ho : o < xs.length) (u : Value) :
    OwnN (w.setCell ⟨g, o, none⟩ u) F e size (.slice (some ⟨g, 0, none⟩) n c) n (xs.set o u) ∧ w.frozen? ⟨g, o, none⟩ = false ∧ (∃ v, w.cell? ⟨g, o, none⟩ = some v) := by
  rcases h.1.2 with ⟨hv, h0⟩ | ⟨g', cap, cur, hv, hb, hgg, hnc, hcm, hcs, htk⟩
  · cases hv
  · injection hv with e1 e2 e3
    injection e1 with e1
    injection e1 with e1
    subst e1 e3
    have hbk : Blk w g e cur := hgg
    have hoc : o < cur.size := by
      have := h.1.1
      rw [hcs]
      exact Nat.lt_of_lt_of_le (by omega) (Nat.mul_le_mul_right _ hnc)
    refine ⟨⟨⟨by rw [List.length_set]; exact h.1.1, .inr ⟨g, c, cur.setIfInBounds o u, rfl, hb, hbk.set_ o u, hnc, hcm, by rw [Array.size_setIfInBounds]; exact hcs, ?_⟩⟩, h.2⟩, hbk.frozen o, cur[o], ?_⟩
    · rw [Array.toList_setIfInBounds, List.take_set, htk]
    · rw [hbk.cell o, Array.getElem?_eq_getElem hoc]
section
variable {w w' : World} {lab lab' : Nat → Option Nat} {z n m : Nat} {pv : Nat → Nat} {q q1 : Qs} {F : Nat → Prop}
set_option maxRecDepth 100000 in
set_option maxHeartbeats 4000000 in
theorem copies_len {Gs Ge : Nat → Prop} {A : Option Addr} {c : Nat} {ms : List Ms} {vs : List Value} (h : MsIn w Gs Ge (.slice A ms.length c) ms vs) (hl : ms.length ≤ 256) (hes : ∀ m ∈ ms, m.es.length ≤ 4096) : Calls Try.prog 50 #[.slice A ms.length c] w fun e w' => ∃ A' c', e = .returned (.slice A' ms.length c') ∧ Fr No w w' := by
  obtain ⟨A0, c0, hv, hA⟩ := h.own.form
  injection hv with e1 e2 e3
  subst e1 e3
  clear e2
  have hc := clone_Message w A ms.length c (msV ms vs) hA h.own.rd h.own.1.1 (msV_ones _ _ h.slcs) (by omega)
  have hcap := h.own.cap
  unfold maxLen at hcap
  have hat := fun W (hf : Fr No w W) i m (hm : ms[i]? = some m) => (h.frNo hf).at_ hm
  obtain ⟨L, hL⟩ : ∃ L, L = ms.length := ⟨_, rfl⟩
  rw [← hL] at hc hcap hl ⊢
  clear h hA
  have HC := Lib.hid hc
  have HAT := Lib.hid hat
  have HES := Lib.hid hes
  have HL := Lib.hid hL
  clear hc hat hes hL
  go_enter Try.func50, Try.ntmps50
  go_wp2_with fail
  refine HC.out.mono ?_
  rintro e w1 ⟨A4, c4, rfl, o1, f1⟩
  have hcap4 := o1.cap
  unfold maxLen at hcap4
  go_wp2_with fail
  go_loopw [10] (fun i wr => ∃ k : Nat, k ≤ L ∧ i = .int .i64 k ∧ ∃ xs, OwnN wr (fun b => w.heap.size ≤ b) TMs 9 (.slice A4 L c4) L xs ∧ Fr No w wr) (fun i _ => L - (intOf i).toNat)
  case atStart => exact ⟨0, Nat.zero_le _, rfl, _, o1, f1⟩
  case round =>
    obtain ⟨k, hk, rfl, xs, o2, f2⟩ := hrel
    clear o1 f1
    by_cases hlt : k < L
    · have b1 : decide (k < L) = true := decide_eq_true hlt
      have b2 : decide ((k : Int) < (L : Int)) = true := decide_eq_true (by omega)
      obtain ⟨m, hm⟩ : ∃ m, ms[k]? = some m := ⟨_, List.getElem?_eq_getElem (by rw [← HL.out]; exact hlt)⟩
      have hme := HES.out m (List.mem_of_getElem? hm)
      obtain ⟨bl, x, rfl, hbl, -, -, hxe, d0, d1, d2, d3, d4, d5, d6, d7, d8⟩ := HAT.out _ f2 k m hm
      obtain ⟨Ax, cx, rfl⟩ : ∃ Ax cx, x = .slice Ax m.es.length cx := (let ⟨A, c, e, _⟩ := hxe; ⟨A, c, e⟩)
      obtain ⟨g, rfl, hgl, hgF, -⟩ := o2.head (by omega)
      obtain ⟨kd, mf, mto, mt, ix, pr, cm, ok, es⟩ := m
      simp only at hme hxe d0 d1 d2 d3 d4 d5 d6 d7 d8
      obtain ⟨W1, hW1⟩ : ∃ W1, W1 = World.alloc wr (.cells #[.int .i64 kd, .int .i64 mf, .int .i64 mto, .int .i64 mt, .int .i64 ix, .int .i64 pr, .int .i64 cm, .bool ok, .slice Ax es.length cx] TMs) := ⟨_, rfl⟩
      obtain ⟨gx, hgx⟩ : ∃ gx, gx = wr.heap.size := ⟨_, rfl⟩
      have hfx : Fr No wr W1 := by rw [hW1]; exact fr_alloc _ _
      have hbx : Blk W1 gx TMs (Ms.cells ⟨kd, mf, mto, mt, ix, pr, cm, ok, es⟩ (.slice Ax es.length cx)).toArray := by rw [hgx, hW1]; exact Blk.new _ _ _
      have hcl : Calls Try.prog 74 #[.slice Ax es.length cx] W1 (CloneTo W1 TLg 10 es.length (logV es)) := (let hx := (hxe.frNo hfx).rd; clone_Logged W1 Ax es.length cx (logV es) hx.2.1 hx.2.2.2.2 (logV_len _) (lgz_ones _) (by omega))
      have x8 : W1.cell? ⟨gx, 8, none⟩ = some (.slice Ax es.length cx) := hbx.cell 8
      have hxl := hbx.lt
      have hln : xs.length = L * 9 := o2.1.1
      have hpk := fun W (hf : Fr No W1 W) u => ((o2.frNo hfx).frNo hf).poke (o := k * 9 + 8) (by rw [hln]; omega) u
      have F1 := Lib.hid (f2.transNo hfx)
      have hgl1 := Nat.lt_of_lt_of_le hgl hfx.size
      clear hm hme hxe hbx hfx o2 f2 hln
      have HCL := Lib.hid hcl
      have HW1 := Lib.hid hW1
      have HGX := Lib.hid hgx
      have HPK := Lib.hid hpk
      clear hcl hW1 hgx hpk
      go_upto_region 5 with fail
      rw [← HW1.out, ← HGX.out]
      clear HW1 HGX d0 d1 d2 d3 d4 d5 d6 d7 d8
      go_wp2_with fail
      refine HCL.out.mono ?_
      rintro e w5 ⟨A6, c6, rfl, -, f5⟩
      obtain ⟨o6, y6, v6, z6⟩ := HPK.out _ f5 (.slice A6 es.length c6)
      have T9 := Lib.hid (show (∃ xs, OwnN (w5.setCell ⟨g, k * 9 + 8, none⟩ (.slice A6 es.length c6)) (fun b => w.heap.size ≤ b) TMs 9 (.slice (some ⟨g, 0, none⟩) L c4) L xs) ∧ Fr No w (w5.setCell ⟨g, k * 9 + 8, none⟩ (.slice A6 es.length c6)) from ⟨⟨_, o6⟩, (F1.out.transNo f5).setCell (p := ⟨g, k * 9 + 8, none⟩) (.inr hgF) _⟩)
      have hgl5 := Nat.lt_of_lt_of_le hgl1 f5.size
      clear o6 f5 HPK HCL F1
      go_wp2_with fail
      go_roundw
      case rel => exact ⟨k + 1, by omega, by go_num, T9.out.1.choose, T9.out.1.choose_spec, T9.out.2⟩
      case measure => simp [intOf]; omega
    · obtain rfl : k = L := by omega
      have b1 : decide (k < k) = false := by simp
      clear o2
      go_wp2_with fail
      go_ret
      exact ⟨A4, c4, rfl, f2⟩
set_option maxHeartbeats 1000000 in
theorem q_Net_len (h : QAt w lab z pv q n) : Calls Try.prog 30 #[.pointer (some ⟨z, 0, none⟩)] w fun e w' => ∃ A' c', e = .returned (.slice A' q.net.length c') ∧ Fr No w w' := by
  obtain ⟨Ar, cr, NV, DV, vs, h1, h2, h3, h4⟩ := h.mem
  obtain ⟨A, c, rfl, -⟩ := h3.own.form
  have hc := copies_len h3 h.ok.net (fun m hm => (h.ok.msgs m hm).few)
  have z1 : w.cell? ⟨z, 1, none⟩ = some (.slice A q.net.length c) := h1.cell 1
  have hzl := h.lt z 0 h.z0
  clear h h1 h2 h3 h4
  generalize q.net.length = L at *
  have HC := Lib.hid hc
  clear hc
  go_enter Try.func30, Try.ntmps30
  go_wp2_with fail
  refine HC.out.mono ?_
  rintro e w1 ⟨A4, c4, rfl, f4⟩
  go_wp2_with fail
  go_ret
  exact ⟨A4, c4, rfl, f4⟩
end
end Go.Proofs.Ytokblidfekbeeaa
/- The quorum's laws: a note. -/
namespace Go.Proofs.Ytokblidfekbeeaa
open Go.ChangeShapes Go.WideShapes Go.ChangeAt Go.RowKit
set_option linter.unusedVariables false

theorem note10_alloc (n : Int) (w : World) :
    Calls Try.prog 25 #[.int .i64 n] w fun e w' => e = .returned (noteE (n % 1000)).v ∧ ∃ c, w' = w.alloc c := by
  have hm := fun W => mod_any n 1000 W (by decide) (by decide)
  unfold noteE En.v
  revert hm
  generalize n % 1000 = m
  intro hm
  have HM := Lib.hid hm
  clear hm
  go_enter Try.func25, Try.ntmps25
  go_wp2_with fail
  refine (HM.out _).mono ?_
  rintro e w1 ⟨rfl, rfl⟩
  go_wp2_with fail
  refine bodyPost_ret (v := .agg _) (by simp [results, Try.results25, go_sem]) rfl ⟨rfl, ?_⟩
  exact ⟨_, rfl⟩
theorem note10_any (n : Int) (w : World) :
    Calls Try.prog 25 #[.int .i64 n] w fun e w' => e = .returned (noteE (n % 1000)).v ∧ Fr No w w' := by
  refine (note10_alloc n w).mono ?_
  rintro e w' ⟨rfl, c, rfl⟩
  exact ⟨rfl, fr_alloc _ _⟩
theorem odd_any (n : Int) (w : World) : ∃ k : Nat, 0 < k ∧ k ≤ 5 ∧ k % 2 = 1 ∧ Calls Try.prog 12 #[.int .i64 n] w fun e w' => e = .returned (.int .i64 (k : Int)) ∧ w = w' := by
  have hm := fun W => mod_any n 3 W (by decide) (by decide)
  obtain ⟨m, hm0, hm3⟩ : ∃ m : Nat, n % 3 = (m : Int) ∧ m < 3 := ⟨(n % 3).toNat, by omega, by omega⟩
  refine ⟨2 * m + 1, by omega, by omega, by omega, ?_⟩
  rw [hm0] at hm
  clear hm0
  have HM := Lib.hid hm
  clear hm
  go_enter Try.func12, Try.ntmps12
  go_wp2_with fail
  refine (HM.out _).mono ?_
  rintro e w1 ⟨rfl, rfl⟩
  go_wp2_with fail
  go_ret
  exact ⟨by go_num, rfl⟩
end Go.Proofs.Ytokblidfekbeeaa
