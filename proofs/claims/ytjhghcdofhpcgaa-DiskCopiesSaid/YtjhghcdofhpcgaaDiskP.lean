/-
  The walks of DiskPlays and DiskCopies.
-/
import Derived.Test.YtjhghcdofhpcgaaDiskB
namespace Go.Proofs.Ytjhghcdofhpcgaa
open Go.ChangeShapes Go.WideShapes Go.ChangeAt Go.RowKit
set_option linter.unusedVariables false

/-- A script that came in. -/
structure ActsAt (w : World) (A : Option Addr) (len cap : Nat) (acts : List DAct) : Prop where
  count : acts.length = len
  most : len ≤ maxLen
  nil_ : A = none → len = 0
  reads : Rd w w.heap.size A (acts.map DAct.cells).flatten
  each : ∀ a ∈ acts, a.ok w

theorem In_acts.open_ {w : World} {v : Value} (h : In_acts w v) : ∃ A len cap acts, v = .slice A len cap ∧ ActsAt w A len cap acts := by
  obtain ⟨A, len, cap, xs, rfl, he⟩ := h
  have hch : ∀ xs : List (List Value), (∀ x ∈ xs, DActOk w x) → ∃ acts : List DAct, xs = acts.map DAct.cells ∧ ∀ a ∈ acts, a.ok w := by
    intro xs
    induction xs with
    | nil => exact fun _ => ⟨[], rfl, fun a ha => by cases ha⟩
    | cons x xs ih =>
      intro hx
      obtain ⟨a, e1, h1⟩ := hx x (by simp)
      obtain ⟨ls, e2, h2⟩ := ih fun y hy => hx y (by simp [hy])
      refine ⟨a :: ls, by rw [e1, e2]; rfl, fun y hy => ?_⟩
      rcases List.mem_cons.1 hy with rfl | hy
      · exact h1
      · exact h2 y hy
  obtain ⟨acts, rfl, hok⟩ := hch xs fun x hx => (he.each x hx).2
  exact ⟨A, len, cap, acts, rfl, by simpa using he.count, Nat.le_trans he.room he.most, he.nil_, he.reads, hok⟩

theorem ActsAt.at_ {w w' : World} {A : Option Addr} {len cap : Nat} {acts : List DAct} (h : ActsAt w A len cap acts) (hf : Fr No w w') {i : Nat} (hi : i < len) :
    ∃ b off a, A = some ⟨b, off, none⟩ ∧ acts[i]? = some a ∧ a.ok w ∧ w'.cell? ⟨b, off + i * 3, none⟩ = some (.int .i64 a.which) ∧ w'.cell? ⟨b, off + i * 3 + 1, none⟩ = some (.int .i64 a.n) ∧ w'.cell? ⟨b, off + i * 3 + 2, none⟩ = some (.slice a.A a.b.length a.c) := by
  have hsz : ∀ x ∈ acts.map DAct.cells, x.length = 3 := by
    intro x hx
    obtain ⟨a, _, rfl⟩ := List.mem_map.1 hx
    rfl
  have hil : i < acts.length := by rw [h.count]; exact hi
  have hfl := flatten_len hsz
  rw [List.length_map] at hfl
  obtain ⟨b, off, hA, hb, hc⟩ := (h.reads.frNo hf (Nat.le_refl _)).at_ (by rw [hfl]; omega)
  have hg : ∀ j, j < 3 → w'.cell? ⟨b, off + (i * 3 + j), none⟩ = (acts[i].cells)[j]? := by
    intro j hj
    rw [hc (i * 3 + j) (by rw [hfl]; omega), ← List.getElem?_eq_getElem, flatten_get hsz i j (by simpa using hil) hj]
    simp
  exact ⟨b, off, acts[i], hA, List.getElem?_eq_getElem hil, h.each _ (List.getElem_mem hil), hg 0 (by omega), hg 1 (by omega), hg 2 (by omega)⟩

/-- The same, for every later world. -/
theorem ActsAt.at2 {w : World} {A : Option Addr} {len cap : Nat} {acts : List DAct} (h : ActsAt w A len cap acts) {i : Nat} (hi : i < len) :
    ∃ b off a, A = some ⟨b, off, none⟩ ∧ acts[i]? = some a ∧ a.ok w ∧ ∀ w' : World, Fr No w w' → w'.cell? ⟨b, off + i * 3, none⟩ = some (.int .i64 a.which) ∧ w'.cell? ⟨b, off + i * 3 + 1, none⟩ = some (.int .i64 a.n) ∧ w'.cell? ⟨b, off + i * 3 + 2, none⟩ = some (.slice a.A a.b.length a.c) := by
  obtain ⟨b, off, a, rfl, ha, hok, _⟩ := h.at_ (Fr.refl No w) hi
  refine ⟨b, off, a, rfl, ha, hok, fun w' hf => ?_⟩
  obtain ⟨b', off', a', e1, e2, _, h1, h2, h3⟩ := h.at_ hf hi
  rw [ha] at e2
  injection e1 with e1
  injection e1 with e3 e4
  injection e2 with e2
  subst e2 e3 e4
  exact ⟨h1, h2, h3⟩

def fewA (acts : List DAct) : Prop := acts.length ≤ 60 ∧ ∀ a ∈ acts, a.b.length ≤ 60

/-- What 'few' answers. -/
def FewTo (acts : List DAct) (w : World) (e : Ending) (w' : World) : Prop := ∃ f : Bool, e = .returned (.bool f) ∧ (f = true → fewA acts) ∧ w = w'

theorem few7 (w0 w : World) (A : Option Addr) (len cap : Nat) (acts : List DAct) (h : ActsAt w0 A len cap acts) (hf : Fr No w0 w) :
    Calls Try.prog 17 #[.slice A len cap] w (FewTo acts w) := by
  have hM := h.most
  unfold maxLen at hM
  have hcn := h.count
  have H := Lib.hid h
  have HF := Lib.hid hf
  have HCN := Lib.hid hcn
  clear h hf hcn
  by_cases h0 : len ≤ 60
  · go_enter Try.func17, Try.ntmps17
    go_wp2_with fail
    go_loop [3] (fun i => ∃ m : Nat, m ≤ len ∧ i = .int .i64 m ∧ ∀ a ∈ acts.take m, a.b.length ≤ 60) (fun i => len - (intOf i).toNat)
    case atStart => exact ⟨0, Nat.zero_le _, rfl, by simp⟩
    case round =>
      obtain ⟨m, hm, rfl, hall⟩ := hrel
      by_cases hlt : m < len
      · obtain ⟨b, off, a, rfl, ha, hok, c0, c1, c2⟩ := H.out.at_ HF.out hlt
        have HALL := Lib.hid hall
        have HA := Lib.hid ha
        clear hall ha
        clear c0 c1
        by_cases hb : a.b.length ≤ 60
        · have t1 : decide ((60 : Int) < (a.b.length : Int)) = false := by simp; omega
          go_wp2_with fail
          go_round
          case rel =>
            refine ⟨m + 1, by omega, by go_num, ?_⟩
            rw [List.take_add_one, HA.out]
            intro x hx
            simp at hx
            rcases hx with hx | rfl
            · exact HALL.out x hx
            · exact hb
          case measure => simp [intOf]; omega
        · have t1 : decide ((60 : Int) < (a.b.length : Int)) = true := by simp; omega
          go_wp2_with fail
          go_ret
          exact ⟨false, rfl, (fun h => by cases h), rfl⟩
      · have ht : acts.take m = acts := List.take_of_length_le (by rw [HCN.out]; omega)
        rw [ht] at hall
        have HALL := Lib.hid hall
        clear hall
        clear ht
        go_wp2_with fail
        go_ret
        exact ⟨true, rfl, fun _ => ⟨by rw [HCN.out]; exact h0, HALL.out⟩, rfl⟩
  · go_enter Try.func17, Try.ntmps17
    go_wp2_with fail
    go_ret
    exact ⟨false, rfl, (fun h => by cases h), rfl⟩

/-- What a script leaves. -/
def playTo (acts : List DAct) (s : List UInt8 × Nat) : List UInt8 × Nat := acts.foldl (fun s a => actTo a s.1 s.2) s
theorem playTo_snoc (acts : List DAct) (a : DAct) (s : List UInt8 × Nat) : playTo (acts ++ [a]) s = actTo a (playTo acts s).1 (playTo acts s).2 := by simp [playTo]

theorem ts_new {w w1 w2 : World} (d1 : DiskAt w1 (fun i => i = w.heap.size) w.heap.size [] 0) (f1 : Fr No w w1) (r2 : DskAt TRDisk w2 (fun i => i = w1.heap.size) w1.heap.size [] 0) (f2 : Fr No w1 w2) :
    TS w w2 (fun i => i = w.heap.size ∨ i = w1.heap.size) w.heap.size w1.heap.size [] 0 := by
  have d1' : DskAt TDisk w1 (fun i => i = w.heap.size) w.heap.size [] 0 := d1
  have l1 := d1'.lt w.heap.size rfl
  have l2 := r2.lt w1.heap.size rfl
  have hs := f1.size
  have hs2 := f2.size
  refine ⟨⟨_, _, d1'.frNo f2, r2, fun i hi hj => ?_, fun i hi => .inl hi, fun i hi => .inr hi, fun i hi => ?_⟩, fun i hi => ?_, f1.transNo f2⟩
  · omega
  · rcases hi with rfl | rfl <;> omega
  · rcases hi with rfl | rfl <;> omega

set_option maxHeartbeats 2000000 in
theorem DiskPlays_walk (v0 : Value) (w : World) (w0 : In_acts w v0) :
    Calls Try.prog 5 #[v0] w fun e w' => e = .returned (.bool true) ∧ Below w.heap.size w w' := by
  obtain ⟨A, len, cap, acts, rfl, hacts⟩ := w0.open_
  have hcn := hacts.count
  have hM := hacts.most
  unfold maxLen at hM
  have HACTS := Lib.hid hacts
  have HCN := Lib.hid hcn
  clear hacts hcn
  clear w0
  go_enter Try.func5, Try.ntmps5
  go_wp2_with fail
  refine (disk_new _).mono ?_
  rintro e w1 ⟨rfl, d1, f1⟩
  have hs1 := f1.size
  have hl1 := d1.lt w.heap.size rfl
  have D1 := Lib.hid d1
  have F1 := Lib.hid f1
  clear d1 f1
  go_wp2_with fail
  refine (rdisk_new _).mono ?_
  rintro e w2 ⟨rfl, r2, f2⟩
  have ts := ts_new D1.out F1.out r2 f2
  have TS := Lib.hid ts
  clear ts
  clear r2 f2 D1 F1 hl1
  generalize w1.heap.size = r at *
  go_wp2_with fail
  refine (awake7_any _).mono ?_
  rintro e w3 ⟨rfl, f3⟩
  have T3 := Lib.hid (TS.out.no f3)
  clear f3 TS
  go_wp2_with fail
  refine (few7 w _ A len cap acts HACTS.out T3.out.fr).mono ?_
  rintro e w4 ⟨f, rfl, hfew, rfl⟩
  cases f
  · go_wp2_with fail
    refine (awake7_any _).mono ?_
    rintro e w5 ⟨rfl, f5⟩
    go_wp2_with fail
    go_ret
    exact ⟨ret_bool rfl, (T3.out.fr.transNo f5).belowNo⟩
  · obtain ⟨hfl, hfb⟩ := hfew rfl
    rw [HCN.out] at hfl
    have HFB := Lib.hid hfb
    clear hfb
    clear hfew
    go_wp2_with fail
    go_loopw [5] (fun i wr => ∃ (m : Nat) (F : Nat → Prop), m ≤ len ∧ i = .int .i64 m ∧ TS w wr F w.heap.size r (playTo (acts.take m) ([], 0)).1 (playTo (acts.take m) ([], 0)).2 ∧ (playTo (acts.take m) ([], 0)).1.length ≤ 60 * m) (fun i _ => len - (intOf i).toNat)
    case atStart => exact ⟨0, _, Nat.zero_le _, rfl, T3.out, by simp [playTo]⟩
    case round =>
      obtain ⟨m, F, hm, rfl, ht, hlen⟩ := hrel
      clear T3
      generalize hst : playTo (acts.take m) ([], 0) = st at *
      by_cases hlt : m < len
      · obtain ⟨b, off, a, rfl, ha, hok, c0, c1, c2⟩ := HACTS.out.at_ ht.fr hlt
        have hab : a.b.length ≤ 60 := HFB.out a (List.mem_of_getElem? ha)
        have hlen2 := actTo_len a st.1 st.2
        have hnext : playTo (acts.take (m + 1)) ([], 0) = actTo a st.1 st.2 := by rw [List.take_add_one, ha, ← hst]; exact playTo_snoc _ _ _
        have HNEXT := Lib.hid hnext
        have HT := Lib.hid ht
        have HOK := Lib.hid hok
        have HA := Lib.hid ha
        have HST := Lib.hid hst
        clear hnext ht hok ha hst
        go_wp2_with fail
        refine (both_any w _ F _ _ st.1 st.2 HT.out a HOK.out (by omega)).mono ?_
        rintro e w5 ⟨rfl, t5⟩
        obtain ⟨F5, t6, -, -⟩ := HT.out.to t5
        have T6 := Lib.hid t6
        clear t6
        clear t5
        go_wp2_with fail
        go_roundw
        case rel => exact ⟨m + 1, F5, by omega, by go_num, by rw [HNEXT.out]; exact T6.out, by rw [HNEXT.out]; omega⟩
        case measure => simp [intOf]; omega
      · have HT := Lib.hid ht
        clear ht
        clear hst
        go_wp2_with fail
        go_ret
        exact ⟨ret_bool rfl, HT.out.fr.belowNo⟩
end Go.Proofs.Ytjhghcdofhpcgaa
