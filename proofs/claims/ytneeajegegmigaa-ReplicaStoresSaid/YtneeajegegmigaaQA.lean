/-
  Several texts in one: Rep, RepA, RepB, RepC, RepD.
-/
import Derived.Test.YtneeajegegmigaaQP
import Derived.Test.YtneeajegegmigaaJrnL
import Derived.Deep.RegionHeld3
import Derived.IntWalk
/- The program's replica and its messages in memory. -/
namespace Go.Proofs.Ytneeajegegmigaa
open Go.ChangeShapes Go.WideShapes Go.ChangeAt Go.RowKit
set_option linter.unusedVariables false

abbrev TRep : TypeId := 56
abbrev TMs : TypeId := 41
/-- The cells of a replica. -/
abbrev repCells (j : Nat) (r : Rs) (bits : Int) (nx mt : Nat → Int) : Array Value :=
  #[.pointer (some ⟨j, 0, none⟩), .int .i64 r.id, .int .i64 r.n, .int .i64 r.role, .int .i64 r.commit, .int .i64 bits, .int .i64 (nx 0), .int .i64 (nx 1), .int .i64 (nx 2), .int .i64 (nx 3), .int .i64 (nx 4), .int .i64 (mt 0), .int .i64 (mt 1), .int .i64 (mt 2), .int .i64 (mt 3), .int .i64 (mt 4)]
/-- What the cells say of the votes and of the others. -/
def Sees (r : Rs) (bits : Int) (nx mt : Nat → Int) : Prop := (r.role = 2 → bits = r.votes) ∧ (r.role = 3 → ∀ i, i < r.n → nx i = r.next i ∧ mt i = r.mtch i)
/-- The replica p is r; its journal has n bytes at most; it lies in blocks of F. -/
def RAt (w : World) (F : Nat → Prop) (p : Nat) (r : Rs) (n : Nat) : Prop :=
  ∃ j Fj bits nx mt, Blk w p TRep (repCells j r bits nx mt) ∧ F p ∧ JG true w Fj j r.js n ∧ (∀ i, Fj i → F i) ∧ ¬ Fj p ∧ (∀ i, F i → i < w.heap.size) ∧ Sees r bits nx mt ∧ RsOk r
def RTo (w : World) (F : Nat → Prop) (p : Nat) (r : Rs) (n : Nat) (w' : World) : Prop :=
  ∃ F', RAt w' F' p r n ∧ (∀ i, F' i → F i ∨ w.heap.size ≤ i) ∧ Fr F w w'
section
variable {w w' w1 : World} {F G : Nat → Prop} {p : Nat} {r r' : Rs} {n m : Nat}
theorem RAt.fr (h : RAt w F p r n) (hf : Fr G w w') (hd : ∀ i, F i → ¬ G i) : RAt w' F p r n := by
  obtain ⟨j, Fj, bits, nx, mt, h1, h2, h3, h4, h5, h6, h7⟩ := h
  exact ⟨j, Fj, bits, nx, mt, h1.fr hf (hd p h2), h2, h3.fr hf fun i hi => hd i (h4 i hi), h4, h5, fun i hi => Nat.lt_of_lt_of_le (h6 i hi) hf.size, h7⟩
theorem RAt.frNo (h : RAt w F p r n) (hf : Fr No w w') : RAt w' F p r n := h.fr hf fun _ _ hi => hi
theorem RAt.lt (h : RAt w F p r n) : ∀ i, F i → i < w.heap.size := by
  obtain ⟨j, Fj, bits, nx, mt, h1, h2, h3, h4, h5, h6, h7⟩ := h
  exact h6
theorem RAt.ok (h : RAt w F p r n) : RsOk r := by
  obtain ⟨j, Fj, bits, nx, mt, h1, h2, h3, h4, h5, h6, h7, h8⟩ := h
  exact h8
theorem RAt.more (h : RAt w F p r n) (hn : n ≤ m) : RAt w F p r m := by
  obtain ⟨j, Fj, bits, nx, mt, h1, h2, h3, h4⟩ := h
  exact ⟨j, Fj, bits, nx, mt, h1, h2, h3.more hn, h4⟩
theorem RAt.self (h : RAt w F p r n) : RTo w F p r n w := ⟨F, h, fun _ hi => .inl hi, Fr.refl _ _⟩
theorem RAt.still (h : RAt w F p r n) (hf : Fr No w w') : RTo w F p r n w' := ⟨F, h.frNo hf, fun _ hi => .inl hi, hf.mono fun _ hi => hi.elim⟩
theorem RTo.trans (h : RTo w F p r n w1) (h2 : ∀ F', RAt w1 F' p r n → RTo w1 F' p r' m w') : RTo w F p r' m w' := by
  obtain ⟨F1, h3, h4, h5⟩ := h
  obtain ⟨F2, g3, g4, g5⟩ := h2 F1 h3
  refine ⟨F2, g3, fun i hi => ?_, h5.trans g5 h4⟩
  rcases g4 i hi with h | h
  · exact h4 i h
  · exact .inr (Nat.le_trans h5.size h)
theorem RTo.quiet (h : RTo w F p r n w1) (hf : Fr No w1 w') : RTo w F p r n w' := h.trans fun _ h => h.still hf
theorem RTo.after (hf : Fr No w w1) (h : RTo w1 F p r n w') : RTo w F p r n w' := by
  obtain ⟨F', h1, h2, h3⟩ := h
  exact ⟨F', h1, fun i hi => (h2 i hi).imp id (Nat.le_trans hf.size), (hf.mono (G := F) fun _ hi => hi.elim).trans h3 fun i hi => .inl hi⟩
theorem RTo.more (h : RTo w F p r n w') (hn : n ≤ m) : RTo w F p r m w' := by
  obtain ⟨F', h1, h2⟩ := h
  exact ⟨F', h1.more hn, h2⟩
theorem RTo.own {w0 : World} (h : RTo w1 F p r n w') (hf : Fr No w0 w1) (hN : ∀ i, F i → w0.heap.size ≤ i) : ∃ F', RAt w' F' p r n ∧ (∀ i, F' i → w0.heap.size ≤ i) ∧ Fr No w0 w' := by
  obtain ⟨F', g1, g2, g3⟩ := h
  exact ⟨F', g1, fun i hi => (g2 i hi).elim (fun h => hN i h) (fun h => Nat.le_trans hf.size h), hf.transNew g3 hN⟩
/-- The journal of a replica has turned. -/
theorem RAt.jrn {j : Nat} {Fj : Nat → Prop} {bits : Int} {nx mt : Nat → Int} {s' : Js} (h1 : Blk w p TRep (repCells j r bits nx mt)) (h2 : F p) (h4 : ∀ i, Fj i → F i) (h5 : ¬ Fj p) (h6 : ∀ i, F i → i < w.heap.size) (h7 : Sees r bits nx mt)
    (hj : JGTo true w Fj j s' m w') (hr : RsOk { r with js := s' }) : RTo w F p { r with js := s' } m w' := by
  obtain ⟨Fj', g1, g2, g3⟩ := hj
  have hpl := h6 p h2
  refine ⟨fun i => F i ∨ (w.heap.size ≤ i ∧ i < w'.heap.size), ⟨j, Fj', bits, nx, mt, h1.fr g3 h5, .inl h2, g1, fun i hi => ?_, fun hi => ?_, fun i hi => ?_, h7, hr⟩, fun i hi => ?_, g3.mono h4⟩
  · rcases g2 i hi with h | h
    · exact .inl (h4 i h)
    · exact .inr ⟨h, g1.lt i hi⟩
  · rcases g2 p hi with h | h
    · exact h5 h
    · omega
  · rcases hi with h | h
    · exact Nat.lt_of_lt_of_le (h6 i h) g3.size
    · exact h.2
  · rcases hi with h | h
    · exact .inl h
    · exact .inr h.1
/-- The cells of a replica have turned. -/
theorem RAt.cells {j : Nat} {Fj : Nat → Prop} {bits' : Int} {nx' mt' : Nat → Int} (h2 : F p) (h3 : JG true w Fj j r.js n) (h4 : ∀ i, Fj i → F i) (h5 : ¬ Fj p) (h6 : ∀ i, F i → i < w.heap.size)
    (hf : Fr (fun i => i = p) w w') (hb : Blk w' p TRep (repCells j r' bits' nx' mt')) (hjs : r'.js = r.js) (h7 : Sees r' bits' nx' mt') (hr : RsOk r') : RTo w F p r' n w' := by
  refine ⟨F, ⟨j, Fj, bits', nx', mt', hb, h2, ?_, h4, h5, fun i hi => Nat.lt_of_lt_of_le (h6 i hi) hf.size, h7, hr⟩, fun i hi => .inl hi, hf.mono fun i hi => hi ▸ h2⟩
  rw [hjs]
  exact h3.fr hf fun i hi he => h5 (he ▸ hi)
end

/-- The value of a message whose entries are the slice v. -/
abbrev Ms.v (m : Ms) (v : Value) : Value := .agg #[.int .i64 m.kind, .int .i64 m.from_, .int .i64 m.to_, .int .i64 m.term, .int .i64 m.index, .int .i64 m.prev, .int .i64 m.commit, .bool m.ok, v]
def Ms.cells (m : Ms) (v : Value) : List Value := [.int .i64 m.kind, .int .i64 m.from_, .int .i64 m.to_, .int .i64 m.term, .int .i64 m.index, .int .i64 m.prev, .int .i64 m.commit, .bool m.ok, v]
/-- The slice v reads as the entries es; it lies in blocks of G. -/
def Ent (w : World) (G : Nat → Prop) (v : Value) (es : List Lg) : Prop :=
  ∃ A c, v = .slice A es.length c ∧ (A = none → es.length = 0) ∧ es.length ≤ c ∧ c ≤ maxLen ∧ (es = [] ∨ ∃ b off, A = some ⟨b, off, none⟩ ∧ G b ∧ b < w.heap.size ∧ ∀ k, (h : k < (logV es).length) → w.cell? ⟨b, off + k, none⟩ = some (logV es)[k])
theorem Ent.fr {w w' : World} {F G : Nat → Prop} {v : Value} {es : List Lg} (h : Ent w G v es) (hf : Fr F w w') (hd : ∀ i, G i → ¬ F i) : Ent w' G v es := by
  obtain ⟨A, c, h1, h2, h3, h4, h5⟩ := h
  refine ⟨A, c, h1, h2, h3, h4, h5.imp id ?_⟩
  rintro ⟨b, off, e1, e2, e3, e4⟩
  exact ⟨b, off, e1, e2, Nat.lt_of_lt_of_le e3 hf.size, fun k hk => (hf.cell (p := ⟨b, off + k, none⟩) e3 (hd b e2)).trans (e4 k hk)⟩
theorem Ent.frNo {w w' : World} {G : Nat → Prop} {v : Value} {es : List Lg} (h : Ent w G v es) (hf : Fr No w w') : Ent w' G v es := h.fr hf fun _ _ hi => hi
theorem Ent.mono {w : World} {G H : Nat → Prop} {v : Value} {es : List Lg} (h : Ent w G v es) (hGH : ∀ i, G i → H i) : Ent w H v es := by
  obtain ⟨A, c, h1, h2, h3, h4, h5⟩ := h
  exact ⟨A, c, h1, h2, h3, h4, h5.imp id fun ⟨b, off, e1, e2, e3⟩ => ⟨b, off, e1, hGH b e2, e3⟩⟩
theorem Ent.of_own {w : World} {G : Nat → Prop} {v : Value} {es : List Lg} (h : OwnN w G TLg 10 v es.length (logV es)) : Ent w G v es := by
  obtain ⟨A, c, rfl, hn⟩ := h.form
  obtain ⟨h1, h2⟩ := h.cap
  refine ⟨A, c, rfl, hn, h1, h2, ?_⟩
  rcases Nat.eq_zero_or_pos es.length with h0 | h0
  · exact .inl (List.eq_nil_of_length_eq_zero h0)
  · obtain ⟨b, rfl, h3, h4, h5⟩ := h.head h0
    exact .inr ⟨b, 0, rfl, h4, h3, fun k hk => by rw [Nat.zero_add, h5 k hk, List.getElem?_eq_getElem hk]⟩
theorem Ent.nil (w : World) (G : Nat → Prop) : Ent w G (.slice none 0 0) [] := ⟨none, 0, rfl, fun _ => rfl, Nat.le_refl _, by unfold maxLen; omega, .inl rfl⟩
theorem Ent.rd {w : World} {G : Nat → Prop} {A : Option Addr} {n c : Nat} {es : List Lg} (h : Ent w G (.slice A n c) es) : n = es.length ∧ (A = none → n = 0) ∧ n ≤ c ∧ c ≤ maxLen ∧ Rd w w.heap.size A (logV es) := by
  obtain ⟨A', c', h1, h2, h3, h4, h5⟩ := h
  injection h1 with e1 e2 e3
  subst e1 e2 e3
  refine ⟨rfl, h2, h3, h4, ?_⟩
  rcases h5 with rfl | ⟨b, off, e1, e2, e3, e4⟩
  · exact .inl rfl
  · exact .inr ⟨b, off, e1, e3, e4⟩
/-- The cells of a list of messages, with the slices of their entries. -/
def msV : List Ms → List Value → List Value
  | m :: ms, v :: vs => m.cells v ++ msV ms vs
  | _, _ => []
theorem msV_len : ∀ (ms : List Ms) (vs : List Value), vs.length = ms.length → (msV ms vs).length = ms.length * 9 := by
  intro ms
  induction ms with
  | nil => intro vs _; cases vs <;> rfl
  | cons m ms ih =>
    intro vs h
    rcases vs with _ | ⟨v, vs⟩
    · simp at h
    · simp only [msV, List.length_append, List.length_cons]
      rw [ih vs (by simpa using h), Nat.succ_mul]
      simp [Ms.cells]
      omega
theorem msV_snoc : ∀ (ms : List Ms) (vs : List Value) (m : Ms) (v : Value), vs.length = ms.length → msV (ms ++ [m]) (vs ++ [v]) = msV ms vs ++ m.cells v := by
  intro ms
  induction ms with
  | nil =>
    intro vs m v h
    obtain rfl : vs = [] := List.eq_nil_of_length_eq_zero (by simpa using h)
    simp [msV]
  | cons x ms ih =>
    intro vs m v h
    rcases vs with _ | ⟨y, vs⟩
    · simp at h
    · simp only [List.cons_append, msV, List.append_assoc]
      rw [ih vs m v (by simpa using h)]
/-- The slice v has the messages ms: its row lies in blocks of Gs, their entries in blocks of Ge. -/
structure MsIn (w : World) (Gs Ge : Nat → Prop) (v : Value) (ms : List Ms) (vs : List Value) : Prop where
  own : OwnN w Gs TMs 9 v ms.length (msV ms vs)
  len : vs.length = ms.length
  each : ∀ (i : Nat) (m : Ms) (x : Value), ms[i]? = some m → vs[i]? = some x → Ent w Ge x m.es
  apart : ∀ i, Gs i → ¬ Ge i
  ltS : ∀ i, Gs i → i < w.heap.size
  ltE : ∀ i, Ge i → i < w.heap.size
/-- The slice v has the messages ms; all of it lies in blocks of G. -/
def MsgsAt (w : World) (G : Nat → Prop) (v : Value) (ms : List Ms) : Prop := ∃ Gs Ge vs, MsIn w Gs Ge v ms vs ∧ (∀ i, Gs i → G i) ∧ ∀ i, Ge i → G i
theorem MsIn.fr {w w' : World} {F Gs Ge : Nat → Prop} {v : Value} {ms : List Ms} {vs : List Value} (h : MsIn w Gs Ge v ms vs) (hf : Fr F w w') (hs : ∀ i, Gs i → ¬ F i) (he : ∀ i, Ge i → ¬ F i) : MsIn w' Gs Ge v ms vs :=
  ⟨h.own.fr' hf fun g hg => hs g (h.own.2 g hg), h.len, fun i m x hm hx => (h.each i m x hm hx).fr hf he, h.apart, fun i hi => Nat.lt_of_lt_of_le (h.ltS i hi) hf.size, fun i hi => Nat.lt_of_lt_of_le (h.ltE i hi) hf.size⟩
theorem MsIn.frNo {w w' : World} {Gs Ge : Nat → Prop} {v : Value} {ms : List Ms} {vs : List Value} (h : MsIn w Gs Ge v ms vs) (hf : Fr No w w') : MsIn w' Gs Ge v ms vs := h.fr hf (fun _ _ hi => hi) (fun _ _ hi => hi)
theorem MsgsAt.fr {w w' : World} {F G : Nat → Prop} {v : Value} {ms : List Ms} (h : MsgsAt w G v ms) (hf : Fr F w w') (hd : ∀ i, G i → ¬ F i) : MsgsAt w' G v ms := by
  obtain ⟨Gs, Ge, vs, h1, h2, h3⟩ := h
  exact ⟨Gs, Ge, vs, h1.fr hf (fun i hi => hd i (h2 i hi)) (fun i hi => hd i (h3 i hi)), h2, h3⟩
theorem MsgsAt.frNo {w w' : World} {G : Nat → Prop} {v : Value} {ms : List Ms} (h : MsgsAt w G v ms) (hf : Fr No w w') : MsgsAt w' G v ms := h.fr hf fun _ _ hi => hi
theorem MsgsAt.nil (w : World) (G : Nat → Prop) : MsgsAt w G (.slice none 0 0) [] :=
  ⟨No, No, [], ⟨OwnN.nil _ _ _ _, rfl, fun i m x hm => by simp at hm, fun _ h => h.elim, fun _ h => h.elim, fun _ h => h.elim⟩, fun _ h => h.elim, fun _ h => h.elim⟩
theorem MsgsAt.mono {w : World} {G H : Nat → Prop} {v : Value} {ms : List Ms} (h : MsgsAt w G v ms) (hGH : ∀ i, G i → H i) : MsgsAt w H v ms := by
  obtain ⟨Gs, Ge, vs, h1, h2, h3⟩ := h
  exact ⟨Gs, Ge, vs, h1, fun i hi => hGH i (h2 i hi), fun i hi => hGH i (h3 i hi)⟩
theorem Ent.lt {w : World} {G : Nat → Prop} {v : Value} {es : List Lg} (h : Ent w G v es) : Ent w (fun i => G i ∧ i < w.heap.size) v es := by
  obtain ⟨A, c, h1, h2, h3, h4, h5⟩ := h
  exact ⟨A, c, h1, h2, h3, h4, h5.imp id fun ⟨b, off, e1, e2, e3, e4⟩ => ⟨b, off, e1, ⟨e2, e3⟩, e3, e4⟩⟩
theorem ms_one (m : Ms) {w : World} {G : Nat → Prop} {x : Value} (hx : Ent w G x m.es) : ∀ u ∈ m.cells x, u.oneCell' = true := by
  obtain ⟨A, c, rfl, -⟩ := hx
  intro u hu
  simp only [Ms.cells, List.mem_cons, List.not_mem_nil, or_false] at hu
  rcases hu with rfl | rfl | rfl | rfl | rfl | rfl | rfl | rfl | rfl <;> rfl
/-- A message was appended. -/
theorem MsIn.snoc {W W2 W3 : World} {G Gs Ge : Nat → Prop} {v v' x : Value} {ms : List Ms} {vs : List Value} {m : Ms} (h : MsIn W Gs Ge v ms vs) (hG : ∀ i, W.heap.size ≤ i → G i) (hs : ∀ i, Gs i → G i) (he : ∀ i, Ge i → G i) (hf : Fr No W W2) (hx : Ent W2 (fun b => W.heap.size ≤ b) x m.es)
    (ha : AppendedN W2 0 TMs 9 v ms.length (msV ms vs) (m.cells x) 1 v' W3) : MsgsAt W3 G v' (ms ++ [m]) ∧ Fr (fun i => Gs i) W2 W3 := by
  obtain ⟨o1, f1⟩ := (h.own.frNo hf).appended ha
  have hsz := hf.size
  have hsz2 := f1.size
  refine ⟨⟨fun i => Gs i ∨ (i = W2.heap.size ∧ i < W3.heap.size), fun i => Ge i ∨ (W.heap.size ≤ i ∧ i < W2.heap.size), vs ++ [x], ⟨?_, by simp [h.len], fun i m' x' hm hx' => ?_, fun i hi hh => ?_, fun i hi => ?_, fun i hi => ?_⟩, fun i hi => ?_, fun i hi => ?_⟩, f1⟩
  · rw [msV_snoc _ _ _ _ h.len, List.length_append, List.length_singleton]
    exact o1
  · rcases Nat.lt_or_ge i ms.length with hi | hi
    · rw [List.getElem?_append_left hi] at hm
      rw [List.getElem?_append_left (by rw [h.len]; exact hi)] at hx'
      exact (((h.each i m' x' hm hx').frNo hf).fr f1 fun k hk hh => h.apart k hh hk).mono fun k hk => .inl hk
    · rw [List.getElem?_append_right hi] at hm
      rw [List.getElem?_append_right (by rw [h.len]; exact hi)] at hx'
      have hi0 : i - ms.length = 0 := by
        have := (List.getElem?_eq_some_iff.1 hm).1
        simp at this; omega
      rw [hi0] at hm
      rw [h.len, hi0] at hx'
      simp at hm hx'
      subst hm hx'
      exact (hx.lt.fr f1 fun k hk hh => by have := h.ltS k hh; have := hk.1; omega).mono fun k hk => .inr hk
  · rcases hi with hi | hi
    · rcases hh with hh | hh
      · exact h.apart i hi hh
      · have := h.ltS i hi; omega
    · rcases hh with hh | hh
      · have := h.ltE i hh; omega
      · omega
  · rcases hi with hi | hi
    · have := h.ltS i hi; omega
    · exact hi.2
  · rcases hi with hi | hi
    · have := h.ltE i hi; omega
    · omega
  · rcases hi with hi | hi
    · exact hs i hi
    · exact hG i (by omega)
  · rcases hi with hi | hi
    · exact he i hi
    · exact hG i hi.1
end Go.Proofs.Ytneeajegegmigaa
/- The program's replica: readers, its journal's turns, messages. -/
namespace Go.Proofs.Ytneeajegegmigaa
open Go.ChangeShapes Go.WideShapes Go.ChangeAt Go.RowKit
set_option linter.unusedVariables false

theorem cell_lt {w : World} {b o : Nat} {v : Value} (h : w.cell? ⟨b, o, none⟩ = some v) : b < w.heap.size := by
  unfold World.cell? at h
  rcases Nat.lt_or_ge b w.heap.size with hlt | hge
  · exact hlt
  · simp [Array.getElem?_eq_none hge] at h
/-- The block p has a pointer to a synced journal that remembers s. -/
def RJ (w : World) (p : Nat) (s : Js) (n : Nat) : Prop := ∃ j Fj, w.cell? ⟨p, 0, none⟩ = some (.pointer (some ⟨j, 0, none⟩)) ∧ JG true w Fj j s n ∧ ¬ Fj p
section
variable {w w' : World} {F : Nat → Prop} {p : Nat} {r : Rs} {s : Js} {n : Nat}
theorem RAt.rj (h : RAt w F p r n) : RJ w p r.js n := by
  obtain ⟨j, Fj, bits, nx, mt, h1, h2, h3, h4, h5, h6, h7⟩ := h
  exact ⟨j, Fj, h1.cell 0, h3, h5⟩
theorem RJ.frNo (h : RJ w p s n) (hf : Fr No w w') : RJ w' p s n := by
  obtain ⟨j, Fj, h1, h2, h3⟩ := h
  exact ⟨j, Fj, (hf.cell (p := ⟨p, 0, none⟩) (cell_lt h1) (fun h => h)).trans h1, h2.frNo hf, h3⟩
theorem RJ.frp (h : RJ w p s n) (hf : Fr (fun i => i = p) w w') (hc : w'.cell? ⟨p, 0, none⟩ = w.cell? ⟨p, 0, none⟩) : RJ w' p s n := by
  obtain ⟨j, Fj, h1, h2, h3⟩ := h
  exact ⟨j, Fj, hc.trans h1, h2.fr hf fun i hi he => h3 (he ▸ hi), h3⟩
theorem p_role (h : RAt w F p r n) : Calls Try.prog 13 #[.pointer (some ⟨p, 0, none⟩)] w fun e w' => e = .returned (.int .i64 r.role) ∧ w = w' := by
  obtain ⟨j, Fj, bits, nx, mt, h1, -⟩ := h
  have c3 : w.cell? ⟨p, 3, none⟩ = some (.int .i64 r.role) := h1.cell 3
  clear h1
  go_enter Try.func13, Try.ntmps13
  go_wp2_with fail
  go_ret
  exact ⟨rfl, rfl⟩
theorem p_commit (h : RAt w F p r n) : Calls Try.prog 18 #[.pointer (some ⟨p, 0, none⟩)] w fun e w' => e = .returned (.int .i64 (r.commit : Int)) ∧ w = w' := by
  obtain ⟨j, Fj, bits, nx, mt, h1, -⟩ := h
  have c3 : w.cell? ⟨p, 4, none⟩ = some (.int .i64 (r.commit : Int)) := h1.cell 4
  clear h1
  go_enter Try.func18, Try.ntmps18
  go_wp2_with fail
  go_ret
  exact ⟨rfl, rfl⟩
theorem p_term (h : RJ w p s n) : Calls Try.prog 19 #[.pointer (some ⟨p, 0, none⟩)] w fun e w' => e = .returned (.int .i64 s.term) ∧ w = w' := by
  obtain ⟨j, Fj, c0, h3, -⟩ := h
  have hg := g_term h3
  clear h3
  have HG := Lib.hid hg
  clear hg
  go_enter Try.func19, Try.ntmps19
  go_wp2_with fail
  refine HG.out.mono ?_
  rintro e w' ⟨rfl, rfl⟩
  go_wp2_with fail
  go_ret
  exact ⟨rfl, rfl⟩
theorem p_vote (h : RJ w p s n) : Calls Try.prog 24 #[.pointer (some ⟨p, 0, none⟩)] w fun e w' => e = .returned (.int .i64 s.vote) ∧ w = w' := by
  obtain ⟨j, Fj, c0, h3, -⟩ := h
  have hg := g_vote h3
  clear h3
  have HG := Lib.hid hg
  clear hg
  go_enter Try.func24, Try.ntmps24
  go_wp2_with fail
  refine HG.out.mono ?_
  rintro e w' ⟨rfl, rfl⟩
  go_wp2_with fail
  go_ret
  exact ⟨rfl, rfl⟩
theorem p_len (h : RJ w p s n) : Calls Try.prog 25 #[.pointer (some ⟨p, 0, none⟩)] w fun e w' => e = .returned (.int .i64 (s.log.length : Int)) ∧ w = w' := by
  obtain ⟨j, Fj, c0, h3, -⟩ := h
  have hg := g_len h3
  clear h3
  have HG := Lib.hid hg
  clear hg
  go_enter Try.func25, Try.ntmps25
  go_wp2_with fail
  refine HG.out.mono ?_
  rintro e w' ⟨rfl, rfl⟩
  go_wp2_with fail
  go_ret
  exact ⟨rfl, rfl⟩
theorem lg_cells {w : World} {g : Nat} {x : Lg} (hb : Blk w g TLg x.cells.toArray) : w.cell? ⟨g, 0, none⟩ = some (.int .i64 x.term) ∧ w.cell? ⟨g, 1, none⟩ = some (.int .i64 x.e.kind) ∧ w.cell? ⟨g, 2, none⟩ = some (.int .i64 x.e.tick) ∧ w.cell? ⟨g, 3, none⟩ = some (.int .i64 x.e.tenant) ∧ w.cell? ⟨g, 4, none⟩ = some (.int .i64 x.e.cell) ∧ w.cell? ⟨g, 5, none⟩ = some (.int .i64 x.e.other) ∧ w.cell? ⟨g, 6, none⟩ = some (.int .i64 x.e.epoch) ∧ w.cell? ⟨g, 7, none⟩ = some (.int .i64 x.e.from_) ∧ w.cell? ⟨g, 8, none⟩ = some (.int .i64 x.e.until_) ∧ w.cell? ⟨g, 9, none⟩ = some (.int .i64 x.e.n) :=
  ⟨hb.cell 0, hb.cell 1, hb.cell 2, hb.cell 3, hb.cell 4, hb.cell 5, hb.cell 6, hb.cell 7, hb.cell 8, hb.cell 9⟩
theorem at_results (x : Lg) (g : Nat) (y : Value) (ts : Array Value) (W : World) (hb : Blk W g TLg x.cells.toArray) (h2 : ts[4]?.getD undef = .pointer (some ⟨g, 0, none⟩)) (h3 : ts[5]?.getD undef = y) :
    (results Try.f22 ts).run Try.prog W = .ok (.tuple #[x.v, y]) W := by
  obtain ⟨c0, c1, c2, c3, c4, c5, c6, c7, c8, c9⟩ := lg_cells hb
  clear hb
  simp [results, Try.results22, go_sem, h2, h3, Lg.v, c0, c1, c2, c3, c4, c5, c6, c7, c8, c9]
theorem lg_fill {Z : World} {q : Nat} (x : Lg) (h : Blk Z q TLg #[.int .i64 0, .int .i64 0, .int .i64 0, .int .i64 0, .int .i64 0, .int .i64 0, .int .i64 0, .int .i64 0, .int .i64 0, .int .i64 0]) : Blk (World.setCell (World.setCell (World.setCell (World.setCell (World.setCell (World.setCell (World.setCell (World.setCell (World.setCell (World.setCell Z ⟨q, 0, none⟩ (.int .i64 x.term)) ⟨q, 1, none⟩ (.int .i64 x.e.kind)) ⟨q, 2, none⟩ (.int .i64 x.e.tick)) ⟨q, 3, none⟩ (.int .i64 x.e.tenant)) ⟨q, 4, none⟩ (.int .i64 x.e.cell)) ⟨q, 5, none⟩ (.int .i64 x.e.other)) ⟨q, 6, none⟩ (.int .i64 x.e.epoch)) ⟨q, 7, none⟩ (.int .i64 x.e.from_)) ⟨q, 8, none⟩ (.int .i64 x.e.until_)) ⟨q, 9, none⟩ (.int .i64 x.e.n)) q TLg #[.int .i64 x.term, .int .i64 x.e.kind, .int .i64 x.e.tick, .int .i64 x.e.tenant, .int .i64 x.e.cell, .int .i64 x.e.other, .int .i64 x.e.epoch, .int .i64 x.e.from_, .int .i64 x.e.until_, .int .i64 x.e.n] := by
  refine Blk.conv (Blk.set_ (Blk.set_ (Blk.set_ (Blk.set_ (Blk.set_ (Blk.set_ (Blk.set_ (Blk.set_ (Blk.set_ (Blk.set_ h 0 (.int .i64 x.term)) 1 (.int .i64 x.e.kind)) 2 (.int .i64 x.e.tick)) 3 (.int .i64 x.e.tenant)) 4 (.int .i64 x.e.cell)) 5 (.int .i64 x.e.other)) 6 (.int .i64 x.e.epoch)) 7 (.int .i64 x.e.from_)) 8 (.int .i64 x.e.until_)) 9 (.int .i64 x.e.n)) ?_
  simp only [List.setIfInBounds_toArray, List.set_cons_zero, List.set_cons_succ]
theorem lg_fill_fr {w Z : World} {q : Nat} (x : Lg) (h : Fr No w Z) (hq : w.heap.size ≤ q) : Fr No w (World.setCell (World.setCell (World.setCell (World.setCell (World.setCell (World.setCell (World.setCell (World.setCell (World.setCell (World.setCell Z ⟨q, 0, none⟩ (.int .i64 x.term)) ⟨q, 1, none⟩ (.int .i64 x.e.kind)) ⟨q, 2, none⟩ (.int .i64 x.e.tick)) ⟨q, 3, none⟩ (.int .i64 x.e.tenant)) ⟨q, 4, none⟩ (.int .i64 x.e.cell)) ⟨q, 5, none⟩ (.int .i64 x.e.other)) ⟨q, 6, none⟩ (.int .i64 x.e.epoch)) ⟨q, 7, none⟩ (.int .i64 x.e.from_)) ⟨q, 8, none⟩ (.int .i64 x.e.until_)) ⟨q, 9, none⟩ (.int .i64 x.e.n)) := Fr.setCell (Fr.setCell (Fr.setCell (Fr.setCell (Fr.setCell (Fr.setCell (Fr.setCell (Fr.setCell (Fr.setCell (Fr.setCell h (p := ⟨q, 0, none⟩) (.inr hq) (.int .i64 x.term)) (p := ⟨q, 1, none⟩) (.inr hq) (.int .i64 x.e.kind)) (p := ⟨q, 2, none⟩) (.inr hq) (.int .i64 x.e.tick)) (p := ⟨q, 3, none⟩) (.inr hq) (.int .i64 x.e.tenant)) (p := ⟨q, 4, none⟩) (.inr hq) (.int .i64 x.e.cell)) (p := ⟨q, 5, none⟩) (.inr hq) (.int .i64 x.e.other)) (p := ⟨q, 6, none⟩) (.inr hq) (.int .i64 x.e.epoch)) (p := ⟨q, 7, none⟩) (.inr hq) (.int .i64 x.e.from_)) (p := ⟨q, 8, none⟩) (.inr hq) (.int .i64 x.e.until_)) (p := ⟨q, 9, none⟩) (.inr hq) (.int .i64 x.e.n)
theorem lg_fill_frF {w Z : World} {F : Nat → Prop} {q : Nat} (x : Lg) (h : Fr F w Z) (hq : F q) : Fr F w (World.setCell (World.setCell (World.setCell (World.setCell (World.setCell (World.setCell (World.setCell (World.setCell (World.setCell (World.setCell Z ⟨q, 0, none⟩ (.int .i64 x.term)) ⟨q, 1, none⟩ (.int .i64 x.e.kind)) ⟨q, 2, none⟩ (.int .i64 x.e.tick)) ⟨q, 3, none⟩ (.int .i64 x.e.tenant)) ⟨q, 4, none⟩ (.int .i64 x.e.cell)) ⟨q, 5, none⟩ (.int .i64 x.e.other)) ⟨q, 6, none⟩ (.int .i64 x.e.epoch)) ⟨q, 7, none⟩ (.int .i64 x.e.from_)) ⟨q, 8, none⟩ (.int .i64 x.e.until_)) ⟨q, 9, none⟩ (.int .i64 x.e.n)) := Fr.setCell (Fr.setCell (Fr.setCell (Fr.setCell (Fr.setCell (Fr.setCell (Fr.setCell (Fr.setCell (Fr.setCell (Fr.setCell h (p := ⟨q, 0, none⟩) (.inl hq) (.int .i64 x.term)) (p := ⟨q, 1, none⟩) (.inl hq) (.int .i64 x.e.kind)) (p := ⟨q, 2, none⟩) (.inl hq) (.int .i64 x.e.tick)) (p := ⟨q, 3, none⟩) (.inl hq) (.int .i64 x.e.tenant)) (p := ⟨q, 4, none⟩) (.inl hq) (.int .i64 x.e.cell)) (p := ⟨q, 5, none⟩) (.inl hq) (.int .i64 x.e.other)) (p := ⟨q, 6, none⟩) (.inl hq) (.int .i64 x.e.epoch)) (p := ⟨q, 7, none⟩) (.inl hq) (.int .i64 x.e.from_)) (p := ⟨q, 8, none⟩) (.inl hq) (.int .i64 x.e.until_)) (p := ⟨q, 9, none⟩) (.inl hq) (.int .i64 x.e.n)

set_option maxHeartbeats 1000000 in
theorem p_at (h : RJ w p s n) (i : Int) : Calls Try.prog 22 #[.pointer (some ⟨p, 0, none⟩), .int .i64 i] w fun e w' => e = .returned (.tuple #[(atJ s.log i).1.v, .bool (atJ s.log i).2]) ∧ Fr No w w' := by
  have c0 := fun W (hW : Fr No w W) => h.frNo hW
  obtain ⟨j, Fj, c00, h3, -⟩ := c0 _ (fr_alloc w (.cells #[.int .i64 0, .int .i64 0, .int .i64 0, .int .i64 0, .int .i64 0, .int .i64 0, .int .i64 0, .int .i64 0, .int .i64 0, .int .i64 0] TLg))
  have hg := g_at h3 i
  clear h3 c0 h
  generalize (atJ s.log i).1 = x at *
  generalize (atJ s.log i).2 = b at *
  obtain ⟨t, ⟨kd, tick, te, ce, ot, ep, fr, un, nn⟩⟩ := x
  unfold Lg.v at hg ⊢
  simp only at hg ⊢
  have HG := Lib.hid hg
  clear hg
  go_enter Try.func22, Try.ntmps22
  go_wp2_with fail
  refine HG.out.mono ?_
  rintro e w1 ⟨rfl, f1⟩
  have hb := (Blk.new w TLg #[.int .i64 0, .int .i64 0, .int .i64 0, .int .i64 0, .int .i64 0, .int .i64 0, .int .i64 0, .int .i64 0, .int .i64 0, .int .i64 0]).fr f1 (fun h => h)
  have F1 := Lib.hid ((fr_alloc w (.cells #[.int .i64 0, .int .i64 0, .int .i64 0, .int .i64 0, .int .i64 0, .int .i64 0, .int .i64 0, .int .i64 0, .int .i64 0, .int .i64 0] TLg)).transNo f1)
  have q0 : w1.cell? ⟨w.heap.size, 0, none⟩ = some (.int .i64 0) := hb.cell 0
  have q1 : w1.cell? ⟨w.heap.size, 1, none⟩ = some (.int .i64 0) := hb.cell 1
  have q2 : w1.cell? ⟨w.heap.size, 2, none⟩ = some (.int .i64 0) := hb.cell 2
  have q3 : w1.cell? ⟨w.heap.size, 3, none⟩ = some (.int .i64 0) := hb.cell 3
  have q4 : w1.cell? ⟨w.heap.size, 4, none⟩ = some (.int .i64 0) := hb.cell 4
  have q5 : w1.cell? ⟨w.heap.size, 5, none⟩ = some (.int .i64 0) := hb.cell 5
  have q6 : w1.cell? ⟨w.heap.size, 6, none⟩ = some (.int .i64 0) := hb.cell 6
  have q7 : w1.cell? ⟨w.heap.size, 7, none⟩ = some (.int .i64 0) := hb.cell 7
  have q8 : w1.cell? ⟨w.heap.size, 8, none⟩ = some (.int .i64 0) := hb.cell 8
  have q9 : w1.cell? ⟨w.heap.size, 9, none⟩ = some (.int .i64 0) := hb.cell 9
  have y0 := hb.frozen 0
  have y1 := hb.frozen 1
  have y2 := hb.frozen 2
  have y3 := hb.frozen 3
  have y4 := hb.frozen 4
  have y5 := hb.frozen 5
  have y6 := hb.frozen 6
  have y7 := hb.frozen 7
  have y8 := hb.frozen 8
  have y9 := hb.frozen 9
  have HB := Lib.hid hb
  clear hb
  clear f1
  go_wp2_with fail
  exact bodyPost_ret (v := .tuple #[Lg.v ⟨t, ⟨kd, tick, te, ce, ot, ep, fr, un, nn⟩⟩, .bool b]) (at_results ⟨t, ⟨kd, tick, te, ce, ot, ep, fr, un, nn⟩⟩ w.heap.size _ _ _ (lg_fill ⟨t, ⟨kd, tick, te, ce, ot, ep, fr, un, nn⟩⟩ HB.out) rfl rfl) rfl ⟨rfl, lg_fill_fr ⟨t, ⟨kd, tick, te, ce, ot, ep, fr, un, nn⟩⟩ F1.out (Nat.le_refl _)⟩
end
end Go.Proofs.Ytneeajegegmigaa
/- The program's replica: messages, parts of the log, the journal's turns. -/
namespace Go.Proofs.Ytneeajegegmigaa
open Go.ChangeShapes Go.WideShapes Go.ChangeAt Go.RowKit
set_option linter.unusedVariables false

theorem ms_fill {Z : World} {q : Nat} (m : Ms) (v : Value) (h : Blk Z q TMs #[.int .i64 0, .int .i64 0, .int .i64 0, .int .i64 0, .int .i64 0, .int .i64 0, .int .i64 0, .bool false, .slice none 0 0]) : Blk (World.setCell (World.setCell (World.setCell (World.setCell (World.setCell (World.setCell (World.setCell (World.setCell (World.setCell Z ⟨q, 0, none⟩ (.int .i64 m.kind)) ⟨q, 1, none⟩ (.int .i64 m.from_)) ⟨q, 2, none⟩ (.int .i64 m.to_)) ⟨q, 3, none⟩ (.int .i64 m.term)) ⟨q, 4, none⟩ (.int .i64 m.index)) ⟨q, 5, none⟩ (.int .i64 m.prev)) ⟨q, 6, none⟩ (.int .i64 m.commit)) ⟨q, 7, none⟩ (.bool m.ok)) ⟨q, 8, none⟩ (v)) q TMs #[.int .i64 m.kind, .int .i64 m.from_, .int .i64 m.to_, .int .i64 m.term, .int .i64 m.index, .int .i64 m.prev, .int .i64 m.commit, .bool m.ok, v] := by
  refine Blk.conv (Blk.set_ (Blk.set_ (Blk.set_ (Blk.set_ (Blk.set_ (Blk.set_ (Blk.set_ (Blk.set_ (Blk.set_ h 0 (.int .i64 m.kind)) 1 (.int .i64 m.from_)) 2 (.int .i64 m.to_)) 3 (.int .i64 m.term)) 4 (.int .i64 m.index)) 5 (.int .i64 m.prev)) 6 (.int .i64 m.commit)) 7 (.bool m.ok)) 8 (v)) ?_
  simp only [List.setIfInBounds_toArray, List.set_cons_zero, List.set_cons_succ]
theorem ms_fill_fr {w Z : World} {q : Nat} (m : Ms) (v : Value) (h : Fr No w Z) (hq : w.heap.size ≤ q) : Fr No w (World.setCell (World.setCell (World.setCell (World.setCell (World.setCell (World.setCell (World.setCell (World.setCell (World.setCell Z ⟨q, 0, none⟩ (.int .i64 m.kind)) ⟨q, 1, none⟩ (.int .i64 m.from_)) ⟨q, 2, none⟩ (.int .i64 m.to_)) ⟨q, 3, none⟩ (.int .i64 m.term)) ⟨q, 4, none⟩ (.int .i64 m.index)) ⟨q, 5, none⟩ (.int .i64 m.prev)) ⟨q, 6, none⟩ (.int .i64 m.commit)) ⟨q, 7, none⟩ (.bool m.ok)) ⟨q, 8, none⟩ (v)) := Fr.setCell (Fr.setCell (Fr.setCell (Fr.setCell (Fr.setCell (Fr.setCell (Fr.setCell (Fr.setCell (Fr.setCell h (p := ⟨q, 0, none⟩) (.inr hq) (.int .i64 m.kind)) (p := ⟨q, 1, none⟩) (.inr hq) (.int .i64 m.from_)) (p := ⟨q, 2, none⟩) (.inr hq) (.int .i64 m.to_)) (p := ⟨q, 3, none⟩) (.inr hq) (.int .i64 m.term)) (p := ⟨q, 4, none⟩) (.inr hq) (.int .i64 m.index)) (p := ⟨q, 5, none⟩) (.inr hq) (.int .i64 m.prev)) (p := ⟨q, 6, none⟩) (.inr hq) (.int .i64 m.commit)) (p := ⟨q, 7, none⟩) (.inr hq) (.bool m.ok)) (p := ⟨q, 8, none⟩) (.inr hq) (v)
theorem ms_fill_frF {w Z : World} {F : Nat → Prop} {q : Nat} (m : Ms) (v : Value) (h : Fr F w Z) (hq : F q) : Fr F w (World.setCell (World.setCell (World.setCell (World.setCell (World.setCell (World.setCell (World.setCell (World.setCell (World.setCell Z ⟨q, 0, none⟩ (.int .i64 m.kind)) ⟨q, 1, none⟩ (.int .i64 m.from_)) ⟨q, 2, none⟩ (.int .i64 m.to_)) ⟨q, 3, none⟩ (.int .i64 m.term)) ⟨q, 4, none⟩ (.int .i64 m.index)) ⟨q, 5, none⟩ (.int .i64 m.prev)) ⟨q, 6, none⟩ (.int .i64 m.commit)) ⟨q, 7, none⟩ (.bool m.ok)) ⟨q, 8, none⟩ (v)) := Fr.setCell (Fr.setCell (Fr.setCell (Fr.setCell (Fr.setCell (Fr.setCell (Fr.setCell (Fr.setCell (Fr.setCell h (p := ⟨q, 0, none⟩) (.inl hq) (.int .i64 m.kind)) (p := ⟨q, 1, none⟩) (.inl hq) (.int .i64 m.from_)) (p := ⟨q, 2, none⟩) (.inl hq) (.int .i64 m.to_)) (p := ⟨q, 3, none⟩) (.inl hq) (.int .i64 m.term)) (p := ⟨q, 4, none⟩) (.inl hq) (.int .i64 m.index)) (p := ⟨q, 5, none⟩) (.inl hq) (.int .i64 m.prev)) (p := ⟨q, 6, none⟩) (.inl hq) (.int .i64 m.commit)) (p := ⟨q, 7, none⟩) (.inl hq) (.bool m.ok)) (p := ⟨q, 8, none⟩) (.inl hq) (v)
theorem ms_cells {w : World} {g : Nat} {m : Ms} {v : Value} (hb : Blk w g TMs #[.int .i64 m.kind, .int .i64 m.from_, .int .i64 m.to_, .int .i64 m.term, .int .i64 m.index, .int .i64 m.prev, .int .i64 m.commit, .bool m.ok, v]) : w.cell? ⟨g, 0, none⟩ = some (.int .i64 m.kind) ∧ w.cell? ⟨g, 1, none⟩ = some (.int .i64 m.from_) ∧ w.cell? ⟨g, 2, none⟩ = some (.int .i64 m.to_) ∧ w.cell? ⟨g, 3, none⟩ = some (.int .i64 m.term) ∧ w.cell? ⟨g, 4, none⟩ = some (.int .i64 m.index) ∧ w.cell? ⟨g, 5, none⟩ = some (.int .i64 m.prev) ∧ w.cell? ⟨g, 6, none⟩ = some (.int .i64 m.commit) ∧ w.cell? ⟨g, 7, none⟩ = some (.bool m.ok) ∧ w.cell? ⟨g, 8, none⟩ = some (v) :=
  ⟨hb.cell 0, hb.cell 1, hb.cell 2, hb.cell 3, hb.cell 4, hb.cell 5, hb.cell 6, hb.cell 7, hb.cell 8⟩
theorem message_results (m : Ms) (v : Value) (g : Nat) (ts : Array Value) (W : World) (hb : Blk W g TMs #[.int .i64 m.kind, .int .i64 m.from_, .int .i64 m.to_, .int .i64 m.term, .int .i64 m.index, .int .i64 m.prev, .int .i64 m.commit, .bool m.ok, v]) (h2 : ts[6]?.getD undef = .pointer (some ⟨g, 0, none⟩)) :
    (results Try.f31 ts).run Try.prog W = .ok (m.v v) W := by
  obtain ⟨c0, c1, c2, c3, c4, c5, c6, c7, c8⟩ := ms_cells hb
  clear hb
  simp [results, Try.results31, go_sem, h2, c0, c1, c2, c3, c4, c5, c6, c7, c8]
theorem campaign1_results (m : Ms) (v : Value) (g : Nat) (ts : Array Value) (W : World) (hb : Blk W g TMs #[.int .i64 m.kind, .int .i64 m.from_, .int .i64 m.to_, .int .i64 m.term, .int .i64 m.index, .int .i64 m.prev, .int .i64 m.commit, .bool m.ok, v]) (h2 : ts[3]?.getD undef = .pointer (some ⟨g, 0, none⟩)) :
    (results Try.f30 ts).run Try.prog W = .ok (m.v v) W := by
  obtain ⟨c0, c1, c2, c3, c4, c5, c6, c7, c8⟩ := ms_cells hb
  clear hb
  simp [results, Try.results30, go_sem, h2, c0, c1, c2, c3, c4, c5, c6, c7, c8]
theorem appending_results (m : Ms) (v : Value) (g : Nat) (ts : Array Value) (W : World) (hb : Blk W g TMs #[.int .i64 m.kind, .int .i64 m.from_, .int .i64 m.to_, .int .i64 m.term, .int .i64 m.index, .int .i64 m.prev, .int .i64 m.commit, .bool m.ok, v]) (h2 : ts[4]?.getD undef = .pointer (some ⟨g, 0, none⟩)) :
    (results Try.f48 ts).run Try.prog W = .ok (m.v v) W := by
  obtain ⟨c0, c1, c2, c3, c4, c5, c6, c7, c8⟩ := ms_cells hb
  clear hb
  simp [results, Try.results48, go_sem, h2, c0, c1, c2, c3, c4, c5, c6, c7, c8]
section
variable {w w' : World} {F : Nat → Prop} {p : Nat} {r : Rs} {s : Js} {n : Nat}
set_option maxHeartbeats 1000000 in
theorem p_lastTerm (h : RJ w p s n) (hl : s.log.length ≤ 4096) : Calls Try.prog 32 #[.pointer (some ⟨p, 0, none⟩)] w fun e w' => e = .returned (.int .i64 (lastT s.log)) ∧ Fr No w w' := by
  have hLen := fun W (hW : Fr No w W) => p_len (h.frNo hW)
  obtain ⟨j, Fj, c00, h3, -⟩ := h
  have c0 := fun W (hW : Fr No w W) => (hW.cell (p := ⟨p, 0, none⟩) (cell_lt c00) (fun h => h)).trans c00
  have hT := fun W (hW : Fr No w W) => g_termAt (h3.frNo hW) ((s.log.length : Int) - 1)
  have hwr : IntKind.i64.wrap ((s.log.length : Int) - 1) = (s.log.length : Int) - 1 := IntWalk.i64_in _ (by omega)
  unfold lastT
  generalize termAt s.log ((s.log.length : Int) - 1) = t at *
  generalize s.log.length = ll at *
  clear h3 hl
  have HLEN := Lib.hid hLen
  have HT := Lib.hid hT
  have C0 := Lib.hid c0
  clear hLen hT c0
  go_enter Try.func32, Try.ntmps32
  go_wp2_with fail
  go_region_held3 (fun V => V.cell? ⟨p, 0, none⟩ = some (.pointer (some ⟨j, 0, none⟩))) (exact C0.out _ (by repeat (first | assumption | exact Fr.refl _ _ | refine Fr.alloc ?_ _ | refine Fr.drew ?_ | refine Fr.drewN ?_ _))) (first
    | (go_at_call 25; refine (HLEN.out _ (by repeat (first | assumption | exact Fr.refl _ _ | refine Fr.alloc ?_ _ | refine Fr.drew ?_ | refine Fr.drewN ?_ _))).mono ?_; rintro e w1 ⟨rfl, rfl⟩)
    | (go_at_call 50; refine (HT.out _ (by repeat (first | assumption | exact Fr.refl _ _ | refine Fr.alloc ?_ _ | refine Fr.drew ?_ | refine Fr.drewN ?_ _))).mono ?_; rintro e w2 ⟨rfl, f2⟩; have Q2 : Fr No w w2 := Fr.transNo (by repeat (first | assumption | exact Fr.refl _ _ | refine Fr.alloc ?_ _ | refine Fr.drew ?_ | refine Fr.drewN ?_ _)) f2; clear f2))
  all_goals
    go_wp2_with fail
    go_ret
    exact ⟨rfl, (by repeat (first | assumption | exact Fr.refl _ _ | refine Fr.alloc ?_ _ | refine Fr.drew ?_ | refine Fr.drewN ?_ _))⟩
set_option maxHeartbeats 1000000 in
theorem p_message (h : RAt w F p r n) (kind dst : Int) : Calls Try.prog 31 #[.pointer (some ⟨p, 0, none⟩), .int .i64 kind, .int .i64 dst] w fun e w' => e = .returned (Ms.v ⟨kind, r.id, dst, r.js.term, 0, 0, 0, false, []⟩ (.slice none 0 0)) ∧ Fr No w w' := by
  have hTerm := fun W (hW : Fr No w W) => p_term (h.frNo hW).rj
  obtain ⟨j, Fj, bits, nx, mt, h1, -⟩ := h
  have c1 : ∀ W, Fr No w W → W.cell? ⟨p, 1, none⟩ = some (.int .i64 (r.id : Int)) := fun W hW => (h1.fr hW (fun h => h)).cell 1
  have hpl := h1.lt
  clear h1
  generalize r.js.term = t at *
  generalize (r.id : Int) = id at *
  have HTERM := Lib.hid hTerm
  have C1 := Lib.hid c1
  clear hTerm c1
  go_enter Try.func31, Try.ntmps31
  go_wp2_with fail
  go_region_held3 (fun V => V.cell? ⟨p, 1, none⟩ = some (.int .i64 id)) (exact C1.out _ (by repeat (first | assumption | exact Fr.refl _ _ | refine Fr.alloc ?_ _ | refine Fr.drew ?_ | refine Fr.drewN ?_ _))) (first
    | (go_at_call 19; refine (HTERM.out _ (by repeat (first | assumption | exact Fr.refl _ _ | refine Fr.alloc ?_ _ | refine Fr.drew ?_ | refine Fr.drewN ?_ _))).mono ?_; rintro e w1 ⟨rfl, rfl⟩))
  all_goals
    go_wp2_with fail
    exact bodyPost_ret (v := Ms.v ⟨kind, id, dst, t, 0, 0, 0, false, []⟩ (.slice none 0 0)) (message_results ⟨kind, id, dst, t, 0, 0, 0, false, []⟩ _ w.heap.size _ _ (Blk.new _ _ _) rfl) rfl ⟨rfl, (by repeat (first | assumption | exact Fr.refl _ _ | refine Fr.alloc ?_ _ | refine Fr.drew ?_ | refine Fr.drewN ?_ _))⟩
end
end Go.Proofs.Ytneeajegegmigaa
/- The program's replica: parts of the log, the journal's turns, a new one. -/
namespace Go.Proofs.Ytneeajegegmigaa
open Go.ChangeShapes Go.WideShapes Go.ChangeAt Go.RowKit
set_option linter.unusedVariables false

theorem Rd.new2 (w : World) (X : Obj) (cs : List Value) (t : TypeId) {xs : List Value} (h : cs = xs) : Rd ((w.alloc X).alloc (.cells cs.toArray t)) (w.heap.size + 2) (some ⟨w.heap.size + 1, 0, none⟩) xs := by
  have := Rd.new (w.alloc X) cs t h
  simpa using this
theorem log_one (x : Lg) : ∀ u ∈ x.cells, u.oneCell' = true := by
  intro u hu
  simp only [Lg.cells, List.mem_cons, List.not_mem_nil, or_false] at hu
  rcases hu with rfl | rfl | rfl | rfl | rfl | rfl | rfl | rfl | rfl | rfl <;> rfl
/-- A part of a log that a call has made: the first m entries from i0 on. -/
def Part (w0 : World) (l : List Lg) (i0 : Nat) (k : Nat) (v : Value) (w : World) : Prop :=
  ∃ A c, v = .slice A (k - i0) c ∧ OwnN w (fun b => w0.heap.size ≤ b) TLg 10 (.slice A (k - i0) c) (k - i0) (logV ((l.drop i0).take (k - i0)))
def FromTo (w : World) (l : List Lg) (e : Ending) (w' : World) : Prop :=
  ∃ A c, e = .returned (.slice A l.length c) ∧ OwnN w' (fun b => w.heap.size ≤ b) TLg 10 (.slice A l.length c) l.length (logV l) ∧ Fr No w w'
theorem Part.frNo {w0 w w' : World} {l : List Lg} {i0 k : Nat} {v : Value} (h : Part w0 l i0 k v w) (hf : Fr No w w') : Part w0 l i0 k v w' := by
  obtain ⟨A, c, h1, h2⟩ := h
  exact ⟨A, c, h1, h2.frNo hf⟩
theorem Part.next {w0 W w1 : World} {l : List Lg} {i0 k : Nat} {A : Option Addr} {c : Nat} {x : Lg} {v' : Value} (hs : w0.heap.size ≤ W.heap.size) (ho : OwnN W (fun b => w0.heap.size ≤ b) TLg 10 (.slice A (k - i0) c) (k - i0) (logV ((l.drop i0).take (k - i0)))) (hi : i0 ≤ k) (hx : l[k]? = some x)
    (ha : AppendedN W 0 TLg 10 (.slice A (k - i0) c) (k - i0) (logV ((l.drop i0).take (k - i0))) x.cells 1 v' w1) : Part w0 l i0 (k + 1) v' w1 ∧ Fr (fun b => w0.heap.size ≤ b) W w1 := by
  obtain ⟨o1, f1⟩ := ho.appended ha
  have o2 := o1.mono (G := fun b => w0.heap.size ≤ b) fun i hi => by rcases hi with hi | hi <;> omega
  have e1 : (l.drop i0).take (k + 1 - i0) = (l.drop i0).take (k - i0) ++ [x] := by
    rw [show k + 1 - i0 = (k - i0) + 1 from by omega, List.take_add_one]
    congr 1
    rw [List.getElem?_drop, show i0 + (k - i0) = k from by omega, hx]
    rfl
  obtain ⟨A', c', e2, -⟩ := o2.form
  refine ⟨⟨A', c', by rw [e2, show k + 1 - i0 = k - i0 + 1 from by omega], ?_⟩, f1⟩
  rw [e1, logV_snoc, show k + 1 - i0 = k - i0 + 1 from by omega, ← e2]
  exact o2

section
variable {w w' : World} {F : Nat → Prop} {p : Nat} {r : Rs} {s : Js} {n : Nat}
set_option maxHeartbeats 2000000 in
theorem p_from (h : RJ w p s n) (hl : s.log.length ≤ 4096) (i0 : Nat) (hi : i0 ≤ s.log.length) : Calls Try.prog 38 #[.pointer (some ⟨p, 0, none⟩), .int .i64 (i0 : Int)] w (FromTo w (s.log.drop i0)) := by
  obtain ⟨i1, hi1, hz0, hz1, hz2⟩ := info_parts log_info
  have hLen := fun W (hW : Fr No w W) => p_len (h.frNo hW)
  have hAt := fun W (hW : Fr No w W) i => p_at (h.frNo hW) i
  clear h
  have HLEN := Lib.hid hLen
  have HAT := Lib.hid hAt
  clear hLen hAt
  go_enter Try.func38, Try.ntmps38
  go_wp2_with fail
  go_loopw [1, 5] (fun i v wr => ∃ k : Nat, i0 ≤ k ∧ k ≤ s.log.length ∧ i = .int .i64 k ∧ Part w s.log i0 k v wr ∧ Fr No w wr) (fun i _ _ => s.log.length - (intOf i).toNat)
  case atStart => exact ⟨i0, Nat.le_refl _, hi, rfl, ⟨none, 0, by simp, by simp [logV]; exact OwnN.nil _ _ _ _⟩, Fr.refl _ _⟩
  case round =>
    obtain ⟨k, hk1, hk2, rfl, ⟨A, c, rfl, hown⟩, hf⟩ := hrel
    have HOWN := Lib.hid hown
    have HF := Lib.hid hf
    clear hown hf
    go_wp2_with fail
    refine (HLEN.out _ HF.out).mono ?_
    rintro e w5 ⟨rfl, rfl⟩
    by_cases hlt : k < s.log.length
    · have hlt2 : (k : Int) < (s.log.length : Int) := by omega
      obtain ⟨x, hx⟩ : ∃ x, s.log[k]? = some x := ⟨_, List.getElem?_eq_getElem hlt⟩
      have hat := HAT.out _ HF.out (k : Int)
      rw [show atJ s.log (k : Int) = (x, true) from by unfold atJ; rw [if_pos (by omega), Int.toNat_natCast, hx]] at hat
      have hnext := fun W v' w1 (hs : w.heap.size ≤ W.heap.size) ho ha => Part.next (w0 := w) (W := W) (A := A) (c := c) (v' := v') (w1 := w1) hs ho hk1 hx ha
      obtain ⟨t, ⟨kd, tick, te, ce, ot, ep, fr, un, nn⟩⟩ := x
      unfold Lg.v at hat
      simp only at hat
      clear hx
      have HAT := Lib.hid hat
      have HNEXT := Lib.hid hnext
      clear hat hnext
      go_wp2_with fail
      refine HAT.out.mono ?_
      rintro e w6 ⟨rfl, f6⟩
      have O6 := Lib.hid ((HOWN.out.frNo f6))
      have F6 := Lib.hid (HF.out.transNo f6)
      have hs6 := F6.out.size
      have hO6 := O6.out.cap
      clear f6
      go_wp2_with (at_builtin; refine wpList_append_rdN _ rfl (.tmp 20) (.tmp 22) _ rfl 0 TLg i1 _ 10 80 Try.underlying39 hi1 hz0 hz1 hz2 rfl (by decide) (.slice A (k - i0) c) (k - i0) (logV ((s.log.drop i0).take (k - i0))) rfl (O6.out.frNo ((fr_alloc _ _).alloc _)).1 (w6.heap.size + 2) (some ⟨w6.heap.size + 1, 0, none⟩) 1 1 (Lg.cells (⟨t, ⟨kd, tick, te, ce, ot, ep, fr, un, nn⟩⟩ : Lg)) rfl ?c1 ?c2 ?c3 ?c4 ?c5 ?c6 ?c7 ?_)
      case c1 => exact fun h => by cases h
      case c2 => exact Rd.new2 _ _ _ _ rfl
      case c3 => rfl
      case c4 => exact log_one _
      case c5 => unfold maxLen; omega
      case c6 => omega
      case c7 => exact Nat.zero_le _
      intro v1 w1 happ
      obtain ⟨p1, f1⟩ := HNEXT.out _ v1 w1 (by simp; omega) (O6.out.frNo ((fr_alloc _ _).alloc _)) happ
      have F1 := Lib.hid (((F6.out.alloc _).alloc _).transNew f1 fun _ h => h)
      clear happ f1
      have P1 := Lib.hid p1
      clear p1
      go_wp2_with fail
      go_roundw
      case rel => exact ⟨k + 1, by omega, by omega, by go_num, P1.out, F1.out⟩
      case measure => simp [intOf]; omega
    · have hge : k = s.log.length := by omega
      subst hge
      go_wp2_with fail
      go_ret
      have e1 : (s.log.drop i0).take (s.log.length - i0) = s.log.drop i0 := List.take_of_length_le (by rw [List.length_drop]; omega)
      have e2 : s.log.length - i0 = (s.log.drop i0).length := by rw [List.length_drop]
      have ho := HOWN.out
      rw [e1] at ho
      rw [e2] at ho ⊢
      exact ⟨A, c, rfl, ho, HF.out⟩
end
end Go.Proofs.Ytneeajegegmigaa
/- The program's replica: the journal's turns, messages that carry more, a new replica. -/
namespace Go.Proofs.Ytneeajegegmigaa
open Go.ChangeShapes Go.WideShapes Go.ChangeAt Go.RowKit
set_option linter.unusedVariables false

theorem JGTo.then {y : Bool} {w w1 w' : World} {F F1 : Nat → Prop} {j : Nat} {s' : Js} {n : Nat} (hf : Fr F w w1) (hi : ∀ i, F1 i → F i ∨ w.heap.size ≤ i) (h : JGTo y w1 F1 j s' n w') : JGTo y w F j s' n w' := by
  obtain ⟨F2, g3, g4, g5⟩ := h
  exact ⟨F2, g3, fun i h => (g4 i h).elim (fun h => hi i h) (fun h => .inr (Nat.le_trans hf.size h)), hf.trans g5 hi⟩
theorem RTo.then {w w1 w' : World} {F F1 : Nat → Prop} {p : Nat} {r : Rs} {n : Nat} (hf : Fr F w w1) (hi : ∀ i, F1 i → F i ∨ w.heap.size ≤ i) (h : RTo w1 F1 p r n w') : RTo w F p r n w' := by
  obtain ⟨F2, g3, g4, g5⟩ := h
  exact ⟨F2, g3, fun i h => (g4 i h).elim (fun h => hi i h) (fun h => .inr (Nat.le_trans hf.size h)), hf.trans g5 hi⟩
theorem OwnN.blk {w : World} {F : Nat → Prop} {e : TypeId} {size b n : Nat} {cs : Array Value} (hb : Blk w b e cs) (hs : cs.size = n * size) (hn : n ≤ maxLen) (hF : F b) : OwnN w F e size (.slice (some ⟨b, 0, none⟩) n n) n cs.toList :=
  ⟨⟨by simpa using hs, .inr ⟨b, n, cs, rfl, Nat.zero_le _, hb, Nat.le_refl _, hn, hs, by rw [← hs, ← Array.length_toList, List.take_length]⟩⟩, fun g hg => by simp [Value.ownBlock] at hg; exact hg ▸ hF⟩
/-- A list of one message in a block of its own. -/
theorem MsgsAt.one {w : World} {G : Nat → Prop} {b : Nat} {m : Ms} {v : Value} (hb : Blk w b TMs (m.cells v).toArray) (hF : G b) (he : Ent w (fun i => G i ∧ i ≠ b) v m.es) : MsgsAt w G (.slice (some ⟨b, 0, none⟩) 1 1) [m] := by
  refine ⟨fun i => i = b, fun i => (G i ∧ i ≠ b) ∧ i < w.heap.size, [v], ⟨?_, rfl, fun i m' x hm hx => ?_, fun i hi hh => hh.1.2 hi, fun i hi => hi ▸ hb.lt, fun i hi => hi.2⟩, fun i hi => hi ▸ hF, fun i hi => hi.1.1⟩
  · have := OwnN.blk (F := fun i => i = b) (size := 9) (n := 1) hb rfl (by unfold maxLen; omega) rfl
    simpa [msV] using this
  · rcases i with _ | i
    · simp at hm hx
      subst hm hx
      exact he.lt
    · simp at hm
/-- What a call answers: new messages. -/
def MsTo (w : World) (ms : List Ms) (e : Ending) (w' : World) : Prop := ∃ A c, e = .returned (.slice A ms.length c) ∧ MsgsAt w' (fun b => w.heap.size ≤ b) (.slice A ms.length c) ms ∧ Fr No w w'

section
variable {w w' : World} {F : Nat → Prop} {p : Nat} {r : Rs} {s : Js} {n : Nat}
set_option maxHeartbeats 1000000 in
theorem p_remember (h : RAt w F p r n) (t v : Int) (hr : RsOk { r with js := setTermS r.js t v }) (hsz : n + 200 ≤ 140737488355328) : Calls Try.prog 27 #[.pointer (some ⟨p, 0, none⟩), .int .i64 t, .int .i64 v] w fun e w' => e = .returned (.tuple #[]) ∧ RTo w F p { r with js := setTermS r.js t v } (n + 48) w' := by
  obtain ⟨j, Fj, bits, nx, mt, h1, h2, h3, h4, h5, h6, h7, -⟩ := h
  have c0 : w.cell? ⟨p, 0, none⟩ = some (.pointer (some ⟨j, 0, none⟩)) := h1.cell 0
  have hfin := fun V (hj : JGTo true w Fj j (setTermS r.js t v) (n + 48) V) => RAt.jrn h1 h2 h4 h5 h6 h7 hj hr
  have hset := g_SetTerm h3 t v hsz
  have hpl := h1.lt
  generalize setTermX r.js t v = X at *
  generalize setTermS r.js t v = S at *
  clear h1 h2 h3 h4 h6 h7 hr
  have HFIN := Lib.hid hfin
  have HSET := Lib.hid hset
  have H5 := Lib.hid h5
  clear hfin hset h5
  go_enter Try.func27, Try.ntmps27
  go_wp2_with fail
  refine HSET.out.mono ?_
  rintro e w1 ⟨rfl, G1, a1, i1, f1⟩
  have c1 := (f1.cell (p := ⟨p, 0, none⟩) hpl H5.out).trans c0
  have A1 := Lib.hid a1
  have I1 := Lib.hid i1
  have F1 := Lib.hid f1
  clear a1 i1 f1
  go_wp2_with fail
  refine (g_sync A1.out).mono ?_
  rintro e w2 ⟨rfl, t2⟩
  have T2 := Lib.hid (HFIN.out _ (JGTo.then F1.out I1.out t2))
  clear t2
  go_wp2_with fail
  go_end0
  exact ⟨rfl, T2.out⟩
set_option maxHeartbeats 1000000 in
theorem p_stored (h : RAt w F p r n) (dst index : Int) (ok : Bool) : Calls Try.prog 52 #[.pointer (some ⟨p, 0, none⟩), .int .i64 dst, .int .i64 index, .bool ok] w (MsTo w (r.answer dst index ok)) := by
  have hm := p_message h 4 dst
  unfold Rs.answer
  generalize r.js.term = t at *
  generalize (r.id : Int) = id at *
  clear h
  have HM := Lib.hid hm
  clear hm
  go_enter Try.func52, Try.ntmps52
  go_wp2_with fail
  refine HM.out.mono ?_
  rintro e w1 ⟨rfl, f1⟩
  have F1 := Lib.hid f1
  clear f1
  go_wp2_with fail
  go_ret
  have hs := F1.out.size
  exact ⟨_, _, rfl, MsgsAt.one (m := ⟨4, id, dst, t, index, 0, 0, ok, []⟩) (Blk.new' _ _ _ _ (by simp)) (by omega) (Ent.nil _ _), (F1.out.alloc _).alloc _⟩
set_option maxHeartbeats 1000000 in
theorem p_new_no (id n : Int) (w : World) (h : n < 1 ∨ 5 < n ∨ n % 2 = 0 ∨ id < 0 ∨ n ≤ id) : Calls Try.prog 6 #[.int .i64 id, .int .i64 n] w fun e w' => e = .returned (.tuple #[.pointer none, .int .i64 1]) ∧ w = w' := by
  by_cases h1 : n < 1
  · have t1 : decide (n < 1) = true := by simpa using h1
    go_enter Try.func6, Try.ntmps6
    go_wp2_with fail
    go_ret2
    exact ⟨rfl, rfl⟩
  have t1 : decide (n < 1) = false := by simpa using h1
  by_cases h2 : 5 < n
  · have t2 : decide (5 < n) = true := by simpa using h2
    go_enter Try.func6, Try.ntmps6
    go_wp2_with fail
    go_ret2
    exact ⟨rfl, rfl⟩
  have t2 : decide (5 < n) = false := by simpa using h2
  have b1 : 1 ≤ n := by omega
  have b2 : n ≤ 5 := by omega
  by_cases h3 : n % 2 = 0
  · have t3 : (n % 2 == 0) = true := by simpa using h3
    clear h3
    go_enter Try.func6, Try.ntmps6
    go_wp2_with fail
    go_ret2
    exact ⟨rfl, rfl⟩
  have t3 : (n % 2 == 0) = false := by simpa using h3
  by_cases h4 : id < 0
  · have t4 : decide (id < 0) = true := by simpa using h4
    clear h3
    go_enter Try.func6, Try.ntmps6
    go_wp2_with fail
    go_ret2
    exact ⟨rfl, rfl⟩
  have t4 : decide (id < 0) = false := by simpa using h4
  have h5 : n ≤ id := by omega
  have t5 : decide (n ≤ id) = true := by simpa using h5
  clear h3
  go_enter Try.func6, Try.ntmps6
  go_wp2_with fail
  go_ret2
  exact ⟨rfl, rfl⟩
set_option maxHeartbeats 1000000 in
theorem p_new (id n : Nat) (w : World) (hid : id < n) (hn : n ≤ 5) (hodd : n % 2 = 1) : Calls Try.prog 6 #[.int .i64 (id : Int), .int .i64 (n : Int)] w fun e w' => ∃ p F, e = .returned (.tuple #[.pointer (some ⟨p, 0, none⟩), .int .i64 0]) ∧ RAt w' F p (repNew id n) 0 ∧ (∀ i, F i → w.heap.size ≤ i) ∧ Fr No w w' := by
  have t1 : decide ((n : Int) < 1) = false := by simp; omega
  have t2 : decide (5 < (n : Int)) = false := by simp; omega
  have t3 : ((n : Int) % 2 == 0) = false := by simp; omega
  have t4 : decide ((id : Int) < 0) = false := by simp
  have t5 : decide (n ≤ id) = false := by simp; omega
  have hok := RsOk.new (id := id) (n := n) hid hn
  have HOK := Lib.hid hok
  clear hok
  go_enter Try.func6, Try.ntmps6
  go_wp2_with fail
  refine (g_new _).mono ?_
  rintro e w1 ⟨j, G, rfl, a1, n1, f1⟩
  have A1 := Lib.hid a1
  have N1 := Lib.hid n1
  have F1 := Lib.hid f1
  clear a1 n1 f1
  go_wp2_with fail
  go_ret2
  have hs := F1.out.size
  have hl := A1.out.lt
  refine ⟨w1.heap.size, fun i => G i ∨ i = w1.heap.size, rfl, ⟨j, G, 0, fun _ => 0, fun _ => 0, Blk.new _ _ _, .inr rfl, A1.out.frNo (fr_alloc _ _), fun i hi => .inl hi, fun hh => ?_, fun i hi => ?_, ⟨fun hh => ?_, fun hh => ?_⟩, HOK.out⟩, fun i hi => ?_, F1.out.alloc _⟩
  · have := hl _ hh; omega
  · rcases hi with hi | hi
    · have := hl i hi; simp; omega
    · simp; omega
  · simp [repNew] at hh
  · simp [repNew] at hh
  · rcases hi with hi | hi
    · exact N1.out i hi
    · omega
end
end Go.Proofs.Ytneeajegegmigaa
