/-
  Several texts in one: Fr, EntV, OwnN, QuD.
-/
import Derived.Test.YtokblidfekbeeaaZ05
import Derived.Laws.Rows
import Derived.Test.YtokblidfekbeeaaZ00
import Derived.Deep.RegionLaw
/- Frames with footprints: which blocks a call may have turned; rows that a structure owns. -/
namespace Go.Proofs.Ytokblidfekbeeaa
open Go.ChangeShapes Go.WideShapes Go.ChangeAt Go.RowKit

/-- Of the blocks that were there, only those of F may have turned. -/
structure Fr (F : Nat → Prop) (w w' : World) : Prop where
  os : w'.os = w.os
  tape : w'.tape = w.tape
  output : w'.output = w.output
  size : w.heap.size ≤ w'.heap.size
  block : ∀ i, i < w.heap.size → ¬ F i → w'.heap[i]? = w.heap[i]?

/-- No block. -/
abbrev No : Nat → Prop := fun _ => False

section
variable {F G : Nat → Prop} {a w w' w'' : World}
theorem Fr.refl (F : Nat → Prop) (w : World) : Fr F w w := ⟨rfl, rfl, rfl, Nat.le_refl _, fun _ _ _ => rfl⟩
theorem Fr.trans (h : Fr F w w') (k : Fr G w' w'') (hG : ∀ i, G i → F i ∨ w.heap.size ≤ i) : Fr F w w'' :=
  ⟨k.os.trans h.os, k.tape.trans h.tape, k.output.trans h.output, Nat.le_trans h.size k.size, fun i hi hn =>
    (k.block i (Nat.lt_of_lt_of_le hi h.size) (fun hg => by
      rcases hG i hg with h1 | h1
      · exact hn h1
      · omega)).trans (h.block i hi hn)⟩
theorem Fr.mono (h : Fr F w w') (hFG : ∀ i, F i → G i) : Fr G w w' := ⟨h.os, h.tape, h.output, h.size, fun i hi hn => h.block i hi fun hf => hn (hFG i hf)⟩
theorem Fr.drew (h : Fr F a w) : Fr F a w.drew := ⟨h.os, h.tape, h.output, h.size, h.block⟩
theorem Fr.drewN (h : Fr F a w) (n : Nat) : Fr F a (w.drewN n) := ⟨h.os, h.tape, h.output, h.size, h.block⟩
theorem Fr.alloc (h : Fr F a w) (o : Obj) : Fr F a (w.alloc o) :=
  ⟨h.os, h.tape, h.output, Nat.le_trans h.size (by simp), fun i hi hn => (Below.heap_alloc w o i (Nat.lt_of_lt_of_le hi h.size)).trans (h.block i hi hn)⟩
theorem Fr.setCell (h : Fr F a w) {p : Addr} (hp : F p.block ∨ a.heap.size ≤ p.block) (u : Value) : Fr F a (w.setCell p u) :=
  ⟨h.os, h.tape, h.output, by simpa [World.setCell] using h.size, fun i hi hn => (Below.heap_setCell w p u i (by
    rintro rfl
    rcases hp with hp | hp
    · exact hn hp
    · omega)).trans (h.block i hi hn)⟩
theorem Fr.grown (h : Fr F a w) {row : Option Nat} (hg : w.grownBy w' row) (hr : ∀ k, row = some k → F k ∨ a.heap.size ≤ k) : Fr F a w' :=
  ⟨hg.os.trans h.os, hg.tape.trans h.tape, hg.output.trans h.output, Nat.le_trans h.size hg.size, fun i hi hn =>
    (hg.block i (Nat.lt_of_lt_of_le hi h.size) (fun e => by
      rcases hr i e.symm with h1 | h1
      · exact hn h1
      · omega)).trans (h.block i hi hn)⟩
theorem Fr.cell (h : Fr F w w') {p : Addr} (hp : p.block < w.heap.size) (hn : ¬ F p.block) : w'.cell? p = w.cell? p := World.cell?_of_block (w := w) (h.block p.block hp hn)
theorem Fr.frozen (h : Fr F w w') {p : Addr} (hp : p.block < w.heap.size) (hn : ¬ F p.block) : w'.frozen? p = w.frozen? p := World.frozen?_of_block (w := w) (h.block p.block hp hn)
theorem Fr.below (h : Fr F w w') {B : Nat} (hB : B ≤ w.heap.size) (hF : ∀ i, F i → B ≤ i) : Below B w w' :=
  ⟨h.os, h.tape, h.output, h.size, fun i hi => h.block i (by omega) fun hf => by have := hF i hf; omega⟩
theorem Fr.of_below (h : Below w.heap.size w w') : Fr No w w' := ⟨h.os, h.tape, h.output, h.size, fun i hi _ => h.block i hi⟩
theorem Fr.rd (h : Fr F w w') {B : Nat} {A : Option Addr} {xs : List Value} (hr : Rd w B A xs) (hB : B ≤ w.heap.size) (hF : ∀ i, F i → B ≤ i) : Rd w' B A xs :=
  hr.below (h.below hB hF)
end

/-- A slice value that owns its cells: a row at the head of a block of F (or nil). -/
def Own (w : World) (F : Nat → Prop) (e : TypeId) (v : Value) (xs : List Value) : Prop :=
  w.ownsRow 0 e 1 v xs.length xs ∧ ∀ g, v.ownBlock = some g → F g

section
variable {w w' : World} {F G : Nat → Prop} {e : TypeId} {v : Value} {xs : List Value}
theorem Own.lt (h : Own w F e v xs) : ∀ g, v.ownBlock = some g → g < w.heap.size := fun g hg => (h.1.lt g hg).2
theorem Own.fr' (h : Own w F e v xs) (hf : Fr G w w') (hd : ∀ g, v.ownBlock = some g → ¬ G g) : Own w' F e v xs := by
  refine ⟨⟨h.1.1, ?_⟩, h.2⟩
  rcases h.1.2 with hn | ⟨g, cap, cur, rfl, hb, hgg, rest⟩
  · exact .inl hn
  · refine .inr ⟨g, cap, cur, rfl, hb, ?_, rest⟩
    rw [hf.block g (Array.getElem?_eq_some_iff.1 hgg).1 (hd g rfl)]
    exact hgg
theorem Own.fr (h : Own w F e v xs) (hf : Fr G w w') (hd : ∀ i, F i → ¬ G i) : Own w' F e v xs := h.fr' hf fun g hg => hd g (h.2 g hg)
theorem Own.own (h : Own w F e v xs) {n : Nat} (hn : xs.length = n) : w.ownsRow 0 e 1 v n xs := hn ▸ h.1
theorem Own.mono (h : Own w F e v xs) (hFG : ∀ i, F i → G i) : Own w G e v xs := ⟨h.1, fun g hg => hFG g (h.2 g hg)⟩
theorem Own.form (h : Own w F e v xs) : ∃ A cap, v = .slice A xs.length cap ∧ (A = none → xs.length = 0) := ownsRow_slice_form h.1
theorem Own.nil (w : World) (F : Nat → Prop) (e : TypeId) : Own w F e (.slice none 0 0) [] := ⟨World.ownsRow_nil _ _ _ _, fun g hg => by cases hg⟩
theorem Own.rd {A : Option Addr} {n c : Nat} (h : Own w F e (.slice A n c) xs) : Rd w w.heap.size A xs := by
  have h1 := h.1
  obtain ⟨A', cap', hv, _⟩ := ownsRow_slice_form h1
  injection hv with e1 e2 e3
  subst e1 e2 e3
  exact Rd.of_own h1
theorem Own.len {A : Option Addr} {n c : Nat} (h : Own w F e (.slice A n c) xs) : n = xs.length ∧ (A = none → n = 0) := by
  obtain ⟨A', cap', hv, hn⟩ := h.form
  injection hv with e1 e2 e3
  subst e1 e2 e3
  exact ⟨rfl, hn⟩
theorem Own.appended (h : Own w F e v xs) {news : List Value} {n m : Nat} (hn : xs.length = n) (hm : news.length = m) {v' : Value} (ha : Appended w 0 e v n xs news m v' w') :
    Own w' (fun i => F i ∨ (i = w.heap.size ∧ i < w'.heap.size)) e v' (xs ++ news) ∧ Fr F w w' := by
  subst hm hn
  refine ⟨⟨by rw [List.length_append]; exact ha.1, fun g hg => ?_⟩, (Fr.refl F w).grown ha.2.1 fun k hk => .inl (h.2 k hk)⟩
  rcases ha.2.2 with e1 | e1
  · exact .inl (h.2 g (e1.symm.trans hg))
  · have hlt := (ha.1.lt g hg).2
    rw [e1] at hg
    injection hg with hg
    exact .inr ⟨hg.symm, hlt⟩
theorem Own.cap {A : Option Addr} {n c : Nat} (h : Own w F e (.slice A n c) xs) : n ≤ c ∧ c ≤ maxLen := by
  obtain ⟨rfl, hn⟩ := h.len
  rcases h.1.2 with ⟨hv, h0⟩ | ⟨g, cap, cur, hv, hb, hgg, hnc, hcm, hcs, htk⟩
  · injection hv with e1 e2 e3
    omega
  · injection hv with e1 e2 e3
    subst e3
    exact ⟨hnc, hcm⟩
/-- A row cut at k. -/
theorem Own.cut {A : Option Addr} {n c k : Nat} (h : Own w F e (.slice A n c) xs) (hk : k ≤ n) : Own w F e (.slice A k c) (xs.take k) := by
  obtain ⟨rfl, hn⟩ := h.len
  have hlen : (xs.take k).length = k := by rw [List.length_take]; omega
  refine ⟨⟨by rw [hlen]; omega, ?_⟩, fun g hg => h.2 g (by rcases A with _ | a <;> exact hg)⟩
  rw [hlen]
  rcases h.1.2 with ⟨hv, h0⟩ | ⟨g, cap, cur, hv, hb, hgg, hnc, hcm, hcs, htk⟩
  · injection hv with e1 e2 e3
    subst e1 e3
    obtain rfl : k = 0 := by omega
    exact .inl ⟨rfl, rfl⟩
  · injection hv with e1 e2 e3
    subst e1 e3
    refine .inr ⟨g, c, cur, rfl, hb, hgg, by omega, hcm, hcs, ?_⟩
    rw [Nat.mul_one] at htk ⊢
    rw [← htk, List.take_take]
    congr 1
    omega
end

/-- A block that is known whole, none of it frozen. -/
def Blk (w : World) (g : Nat) (t : TypeId) (cs : Array Value) : Prop := w.heap[g]? = some (.cells cs t (0, 0))
section
variable {w w' : World} {F : Nat → Prop} {g : Nat} {t : TypeId} {cs : Array Value}
theorem Blk.lt (h : Blk w g t cs) : g < w.heap.size := (Array.getElem?_eq_some_iff.1 h).1
theorem Blk.cell (h : Blk w g t cs) (i : Nat) : w.cell? ⟨g, i, none⟩ = cs[i]? := cell_of_row w g i cs t (0, 0) h
theorem Blk.frozen (h : Blk w g t cs) (i : Nat) : w.frozen? ⟨g, i, none⟩ = false := by
  unfold Blk at h
  simp [World.frozen?, h]
theorem Blk.new (w : World) (t : TypeId) (cs : Array Value) : Blk (w.alloc (.cells cs t)) w.heap.size t cs := heap_alloc_new w _
theorem Blk.fr (h : Blk w g t cs) (hf : Fr F w w') (hn : ¬ F g) : Blk w' g t cs := (hf.block g h.lt hn).trans h
theorem Blk.set_ (h : Blk w g t cs) (i : Nat) (u : Value) : Blk (w.setCell ⟨g, i, none⟩ u) g t (cs.setIfInBounds i u) := by
  unfold Blk at h ⊢
  simp [World.setCell, Array.getElem?_modify, h]
theorem fr_set (w : World) (p : Addr) (u : Value) : Fr (fun i => i = p.block) w (w.setCell p u) := (Fr.refl (fun i => i = p.block) w).setCell (p := p) (.inl rfl) u
theorem Own.ne_blk {e : TypeId} {v : Value} {xs : List Value} (h : Own w F e v xs) (hb : Blk w g t cs) (hne : e ≠ t) : ∀ k, v.ownBlock = some k → k ≠ g := by
  intro k hk
  rcases h.1.2 with ⟨rfl, _⟩ | ⟨g', cap, cur, rfl, _, hh, _⟩
  · cases hk
  · rintro rfl
    obtain rfl : g' = k := by simpa [Value.ownBlock] using hk
    unfold Blk at hb
    rw [hh] at hb
    injection hb with hb
    injection hb with _ ht
    exact hne ht
end
/-- A new block of one-cell elements reads as its cells. -/
theorem Rd.new (w : World) (cs : List Value) (t : TypeId) {xs : List Value} (h : cs = xs) : Rd (w.alloc (.cells cs.toArray t)) (w.heap.size + 1) (some ⟨w.heap.size, 0, none⟩) xs := by
  subst h
  refine .inr ⟨_, 0, rfl, by omega, fun j hj => ?_⟩
  rw [(Blk.new w t cs.toArray).cell, Nat.zero_add]
  simp [List.getElem?_eq_getElem hj]
theorem Rd.fr {w w' : World} {F : Nat → Prop} {B : Nat} {A : Option Addr} {xs : List Value} (hr : Rd w B A xs) (h : Fr F w w') (hB : B ≤ w.heap.size) (hF : ∀ i, F i → B ≤ i) : Rd w' B A xs := h.rd hr hB hF
theorem Rd.frNo {w w' : World} {B : Nat} {A : Option Addr} {xs : List Value} (hr : Rd w B A xs) (h : Fr No w w') (hB : B ≤ w.heap.size) : Rd w' B A xs := h.rd hr hB fun _ hi => hi.elim
theorem Own.frNo {w w' : World} {F : Nat → Prop} {e : TypeId} {v : Value} {xs : List Value} (h : Own w F e v xs) (hf : Fr No w w') : Own w' F e v xs := h.fr hf fun _ _ hi => hi
theorem fr_alloc (w : World) (o : Obj) : Fr No w (w.alloc o) := (Fr.refl _ _).alloc o
theorem Fr.transNo {w w' w'' : World} (h : Fr No w w') (k : Fr No w' w'') : Fr No w w'' := h.trans k fun _ hi => hi.elim
/-- A structure of the call's own has turned. -/
theorem Fr.transNew {w w' w'' : World} {F : Nat → Prop} (h : Fr No w w') (k : Fr F w' w'') (hF : ∀ i, F i → w.heap.size ≤ i) : Fr No w w'' := h.trans k fun i hi => .inr (hF i hi)
theorem Fr.belowNo {w w' : World} (h : Fr No w w') : Below w.heap.size w w' := h.below (Nat.le_refl _) fun _ hi => hi.elim

/-- A footprint that does not hold the row of a slice. -/
def Apart (F : Nat → Prop) (v : Value) : Prop := ∀ g, v.ownBlock = some g → ¬ F g
theorem Apart.next {w : World} {F F' G : Nat → Prop} {e : TypeId} {v : Value} {xs : List Value} (h : Apart F v) (ho : Own w G e v xs) (hs : ∀ i, F' i → F i ∨ w.heap.size ≤ i) : Apart F' v := by
  intro g hg hf
  have := ho.lt g hg
  rcases hs g hf with h1 | h1
  · exact h g hg h1
  · omega
theorem Apart.new {F : Nat → Prop} {w' : World} {B : Nat} {e : TypeId} {v : Value} {xs : List Value} (ho : Own w' (fun i => B ≤ i) e v xs) (hF : ∀ i, F i → i < B) : Apart F v := by
  intro g hg hf
  have h1 := ho.2 g hg
  have h2 := hF g hf
  simp only at h1
  omega

/-- '[]T{}'. -/
theorem Own.made (w : World) (e : TypeId) : Own (w.alloc (.cells #[] e)) (fun i => w.heap.size ≤ i) e (.slice (some ⟨w.heap.size, 0, none⟩) 0 0) [] :=
  ⟨World.ownsRow_made w #[] 0 (Nat.zero_le _) (Nat.zero_le _) rfl, fun g hg => by simp [Value.ownBlock] at hg; omega⟩
/-- An append onto a row of the call's own, made since block B. -/
theorem Own.appendedNew {w w' : World} {B : Nat} {e : TypeId} {v : Value} {xs : List Value} (h : Own w (fun i => B ≤ i) e v xs) (hB : B ≤ w.heap.size) {news : List Value} {n m : Nat} (hn : xs.length = n) (hm : news.length = m) {v' : Value} (ha : Appended w 0 e v n xs news m v' w') :
    Own w' (fun i => B ≤ i) e v' (xs ++ news) ∧ Fr (fun i => B ≤ i) w w' := by
  obtain ⟨h1, h2⟩ := h.appended hn hm ha
  exact ⟨h1.mono fun i hi => by rcases hi with hi | hi <;> omega, h2⟩

/-- An append onto a row that lies in F or was made since block B. -/
theorem Own.appendedF {w w' : World} {F : Nat → Prop} {B : Nat} {e : TypeId} {v : Value} {xs : List Value} (h : Own w (fun i => F i ∨ B ≤ i) e v xs) (hB : B ≤ w.heap.size) {news : List Value} {n m : Nat} (hn : xs.length = n) (hm : news.length = m) {v' : Value} (ha : Appended w 0 e v n xs news m v' w') :
    Own w' (fun i => F i ∨ B ≤ i) e v' (xs ++ news) ∧ Fr (fun i => F i ∨ B ≤ i) w w' := by
  obtain ⟨h1, h2⟩ := h.appended hn hm ha
  refine ⟨h1.mono fun i hi => ?_, h2⟩
  rcases hi with hi | hi
  · exact hi
  · exact .inr (by omega)
theorem Fr.transF {w w1 w2 : World} {F : Nat → Prop} (h : Fr F w w1) (k : Fr (fun i => F i ∨ w.heap.size ≤ i) w1 w2) : Fr F w w2 := h.trans k fun _ hi => hi

/-- What 'append([]T{}, src...)' leaves, draws between let by. -/
theorem Own.copied {w W w1 : World} {e : TypeId} {news : List Value} {m : Nat} {v' : Value} (happ : Appended W 0 e (.slice (some ⟨w.heap.size, 0, none⟩) 0 0) 0 [] news m v' w1) (hW : W.heap = (w.alloc (.cells #[] e)).heap) (hm : news.length = m) :
    Own w1 (fun i => w.heap.size ≤ i) e v' news ∧ Fr (fun i => w.heap.size ≤ i) W w1 := by
  have ho : Own W (fun i => w.heap.size ≤ i) e (.slice (some ⟨w.heap.size, 0, none⟩) 0 0) [] := by
    have := Own.made w e
    unfold Own World.ownsRow at this ⊢
    rwa [hW]
  have := ho.appendedNew (by rw [hW]; simp) rfl hm happ
  rwa [List.nil_append] at this

/-- A row's head and its cells. -/
theorem own_head {w : World} {F : Nat → Prop} {e : TypeId} {A : Option Addr} {n c : Nat} {xs : List Value} (h : Own w F e (.slice A n c) xs) (hp : 0 < n) :
    ∃ b, A = some ⟨b, 0, none⟩ ∧ b < w.heap.size ∧ F b ∧ ∀ k, (hk : k < xs.length) → w.cell? ⟨b, k, none⟩ = some xs[k] ∧ w.frozen? ⟨b, k, none⟩ = false := by
  obtain ⟨rfl, _⟩ := h.len
  obtain ⟨g, cap, hv, _, hlt⟩ := h.1.form hp
  injection hv with e1 e2 e3
  subst e1 e3
  refine ⟨g, rfl, hlt, h.2 g rfl, fun k hk => ⟨?_, h.1.frozenAt k⟩⟩
  rw [h.1.cellAt k (by omega), List.getElem?_eq_getElem hk]

/-- A store into a row of the call's own. -/
theorem own_stored {w : World} {F : Nat → Prop} {e : TypeId} {b n c : Nat} {xs : List Value} (h : Own w F e (.slice (some ⟨b, 0, none⟩) n c) xs) (k : Nat) (u : Value) :
    Own (w.setCell ⟨b, k, none⟩ u) F e (.slice (some ⟨b, 0, none⟩) n c) (xs.set k u) ∧ Fr F w (w.setCell ⟨b, k, none⟩ u) := by
  obtain ⟨rfl, _⟩ := h.len
  refine ⟨⟨?_, h.2⟩, (Fr.refl F w).setCell (p := ⟨b, k, none⟩) (.inl (h.2 b rfl)) u⟩
  have := (h.1.stored k u).1
  rwa [List.length_set]

end Go.Proofs.Ytokblidfekbeeaa
/- Entries as values. -/
namespace Go.Proofs.Ytokblidfekbeeaa
open Go.ChangeShapes Go.WideShapes Go.ChangeAt Go.RowKit
set_option linter.unusedVariables false

/-- An entry as a value. -/
def En.v (e : En) : Value := .agg #[.int .i64 e.kind, .int .i64 e.tick, .int .i64 e.tenant, .int .i64 e.cell, .int .i64 e.other, .int .i64 e.epoch, .int .i64 e.from_, .int .i64 e.until_, .int .i64 e.n]
abbrev TEnt : TypeId := 43
theorem ent_cells {w : World} {g : Nat} {a b c d e f x y z : Value} (h : Blk w g TEnt #[a, b, c, d, e, f, x, y, z]) : w.cell? ⟨g, 0, none⟩ = some a ∧ w.cell? ⟨g, 1, none⟩ = some b ∧ w.cell? ⟨g, 2, none⟩ = some c ∧ w.cell? ⟨g, 3, none⟩ = some d ∧ w.cell? ⟨g, 4, none⟩ = some e ∧ w.cell? ⟨g, 5, none⟩ = some f ∧ w.cell? ⟨g, 6, none⟩ = some x ∧ w.cell? ⟨g, 7, none⟩ = some y ∧ w.cell? ⟨g, 8, none⟩ = some z :=
  ⟨h.cell 0, h.cell 1, h.cell 2, h.cell 3, h.cell 4, h.cell 5, h.cell 6, h.cell 7, h.cell 8⟩

theorem blk_drew {w : World} {g : Nat} {t : TypeId} {cs : Array Value} (h : Blk w g t cs) : Blk w.drew g t cs := h
end Go.Proofs.Ytokblidfekbeeaa
/- Rows whose elements have several cells: a slice that owns them, appends onto it. -/
namespace Go.Proofs.Ytokblidfekbeeaa
open Go.ChangeShapes Go.WideShapes Go.ChangeAt Go.RowKit
set_option linter.unusedVariables false

/-- A slice value that owns rows of 'size' cells each, at the head of a block of F (or nil). -/
def OwnN (w : World) (F : Nat → Prop) (e : TypeId) (size : Nat) (v : Value) (n : Nat) (xs : List Value) : Prop :=
  w.ownsRow 0 e size v n xs ∧ ∀ g, v.ownBlock = some g → F g
/-- What an append leaves. -/
def AppendedN (w : World) (base : Nat) (e : TypeId) (size : Nat) (v : Value) (n : Nat) (xs news : List Value) (m : Nat) (v' : Value) (w' : World) : Prop :=
  w'.ownsRow base e size v' (n + m) (xs ++ news) ∧ w.grownBy w' v.ownBlock ∧ (v'.ownBlock = v.ownBlock ∨ v'.ownBlock = some w.heap.size)

section
variable {P : Program} (w : World)
theorem run_append_rdN (base : Nat) (t ty e : TypeId) (i : TypeInfo) (z : Value) (size bytes : Nat) (ht : P.underlying t = some (.slice e)) (hi : P.info? e = some i) (hz : i.zero = some z)
    (hsize : i.size = size) (hby : i.bytes = bytes) (hzs : z.cells.size = size) (hsz : 0 < size)
    (v : Value) (n : Nat) (xs : List Value) (hown : w.ownsRow base e size v n xs)
    (B : Nat) (A : Option Addr) (m c : Nat) (news : List Value) (hA : A = none → m = 0) (hr : Rd w B A news) (hn : news.length = m * size) (h1 : ∀ u ∈ news, u.oneCell' = true)
    (h63 : n + m ≤ maxLen) (hbytes : ((n + m) + (n + m) / 4 + 192) * bytes ≤ 281474976710656) (hbase : base ≤ w.heap.size) :
    ∃ v' w', (Builtin.append_ #[t, t] ty #[v, .slice A m c]).run P w = .ok v' w' ∧ AppendedN w base e size v n xs news m v' w' := by
  rcases A with _ | ad
  · obtain rfl := hA rfl
    obtain rfl : news = [] := List.eq_nil_of_length_eq_zero (by rw [hn, Nat.zero_mul])
    exact ⟨v, w, run_append_nil_src w base t ty e i size ht hi v n xs hown c, by simpa using hown, World.grownBy.refl w _, .inl rfl⟩
  · have hcells : ∀ j u, news[j]? = some u → w.cell? (ad.add j) = some u := by
      intro j u hu
      obtain ⟨hj, hu⟩ := List.getElem?_eq_some_iff.1 hu
      obtain ⟨b, off, he, _, hc⟩ := hr.at_ (by omega)
      injection he with he
      subst he
      have := hc j hj
      have ea : (⟨b, off, none⟩ : Addr).add j = ⟨b, off + j, none⟩ := by unfold Addr.add; split <;> simp_all
      rw [ea, this, hu]
    obtain ⟨v', w', hrun, h2, h3, h5⟩ := run_append_at (P := P) w base t ty e i z size bytes ht hi hz hsize hby hzs hsz v n xs hown ad m c news hn hcells h1 h63 hbytes hbase
    exact ⟨v', w', hrun, h2, h3, h5⟩

theorem wp_append_rdN {o : Oper} {a : Act} {K : Act → World → Prop} {Q : Exit → Act → World → Prop} (s x : Operand) (t : TypeId)
    (ho : o.op = .call { callee := .builtin .append, args := #[s, x], argTypes := #[t, t] })
    (base : Nat) (e : TypeId) (i : TypeInfo) (z : Value) (size bytes : Nat) (ht : P.underlying t = some (.slice e)) (hi : P.info? e = some i) (hz : i.zero = some z)
    (hsize : i.size = size) (hby : i.bytes = bytes) (hzs : z.cells.size = size) (hsz : 0 < size)
    (v : Value) (n : Nat) (xs : List Value) (hs : a.eval s = v) (hown : w.ownsRow base e size v n xs)
    (B : Nat) (A : Option Addr) (m c : Nat) (news : List Value) (hx : a.eval x = .slice A m c) (hA : A = none → m = 0) (hr : Rd w B A news) (hn : news.length = m * size) (h1 : ∀ u ∈ news, u.oneCell' = true)
    (h63 : n + m ≤ maxLen) (hbytes : ((n + m) + (n + m) / 4 + 192) * bytes ≤ 281474976710656) (hbase : base ≤ w.heap.size)
    (h : ∀ v' w', AppendedN w base e size v n xs news m v' w' → K (a.put o.dst v') w') : o.wp P a w K Q := by
  obtain ⟨v', w', hrun, h2⟩ := run_append_rdN (P := P) w base t o.type e i z size bytes ht hi hz hsize hby hzs hsz v n xs hown B A m c news hA hr hn h1 h63 hbytes hbase
  unfold Oper.wp execOp
  simp only [ho, resolve, invoke, builtin, Sem.run_bind, Sem.run_pure, Result.andThen_ok, List.map_toArray, List.map_cons, List.map_nil, hs, hx, hrun]
  exact h v' w' h2

theorem wpList_append_rdN {ops : Array Oper} {rest : List Oper} {o : Oper} {a : Act} {Q : Exit → Act → World → Prop} (hgd : Region.wanted o (yielded ops a.tmps) = true) (s x : Operand) (t : TypeId)
    (ho : o.op = .call { callee := .builtin .append, args := #[s, x], argTypes := #[t, t] })
    (base : Nat) (e : TypeId) (i : TypeInfo) (z : Value) (size bytes : Nat) (ht : P.underlying t = some (.slice e)) (hi : P.info? e = some i) (hz : i.zero = some z)
    (hsize : i.size = size) (hby : i.bytes = bytes) (hzs : z.cells.size = size) (hsz : 0 < size)
    (v : Value) (n : Nat) (xs : List Value) (hs : a.eval s = v) (hown : w.ownsRow base e size v n xs)
    (B : Nat) (A : Option Addr) (m c : Nat) (news : List Value) (hx : a.eval x = .slice A m c) (hA : A = none → m = 0) (hr : Rd w B A news) (hn : news.length = m * size) (h1 : ∀ u ∈ news, u.oneCell' = true)
    (h63 : n + m ≤ maxLen) (hbytes : ((n + m) + (n + m) / 4 + 192) * bytes ≤ 281474976710656) (hbase : base ≤ w.heap.size)
    (h : ∀ v' w', AppendedN w base e size v n xs news m v' w' → wpList P ops Q rest (a.put o.dst v') w') : wpList P ops Q (o :: rest) a w :=
  wpList_step fun _ hK => by
    rw [if_pos hgd]
    exact wp_append_rdN w s x t ho base e i z size bytes ht hi hz hsize hby hzs hsz v n xs hs hown B A m c news hx hA hr hn h1 h63 hbytes hbase fun v' w' h2 => hK _ _ (h v' w' h2)
theorem step_append_rdN {ops : Array Oper} {o : Oper} {a : Act} {K : Act → World → Prop} {Q : Exit → Act → World → Prop} {E : Prop} (hgd : o.guard = none) (s x : Operand) (t : TypeId)
    (ho : o.op = .call { callee := .builtin .append, args := #[s, x], argTypes := #[t, t] })
    (base : Nat) (e : TypeId) (i : TypeInfo) (z : Value) (size bytes : Nat) (ht : P.underlying t = some (.slice e)) (hi : P.info? e = some i) (hz : i.zero = some z)
    (hsize : i.size = size) (hby : i.bytes = bytes) (hzs : z.cells.size = size) (hsz : 0 < size)
    (v : Value) (n : Nat) (xs : List Value) (hs : a.eval s = v) (hown : w.ownsRow base e size v n xs)
    (B : Nat) (A : Option Addr) (m c : Nat) (news : List Value) (hx : a.eval x = .slice A m c) (hA : A = none → m = 0) (hr : Rd w B A news) (hn : news.length = m * size) (h1 : ∀ u ∈ news, u.oneCell' = true)
    (h63 : n + m ≤ maxLen) (hbytes : ((n + m) + (n + m) / 4 + 192) * bytes ≤ 281474976710656) (hbase : base ≤ w.heap.size)
    (h : ∀ v' w', AppendedN w base e size v n xs news m v' w' → K (a.put o.dst v') w') :
    if Region.wanted o (yielded ops a.tmps) = true then Oper.wp P o a w K Q else E := by
  have hw : Region.wanted o (yielded ops a.tmps) = true := by simp [Region.wanted, hgd]
  rw [if_pos hw]
  exact wp_append_rdN w s x t ho base e i z size bytes ht hi hz hsize hby hzs hsz v n xs hs hown B A m c news hx hA hr hn h1 h63 hbytes hbase h
end


section
variable {w w' : World} {F G : Nat → Prop} {e : TypeId} {size n : Nat} {v : Value} {xs : List Value}
theorem OwnN.lt (h : OwnN w F e size v n xs) : ∀ g, v.ownBlock = some g → g < w.heap.size := fun g hg => (h.1.lt g hg).2
theorem OwnN.fr' (h : OwnN w F e size v n xs) (hf : Fr G w w') (hd : ∀ g, v.ownBlock = some g → ¬ G g) : OwnN w' F e size v n xs := by
  refine ⟨⟨h.1.1, ?_⟩, h.2⟩
  rcases h.1.2 with hn | ⟨g, cap, cur, rfl, hb, hgg, rest⟩
  · exact .inl hn
  · refine .inr ⟨g, cap, cur, rfl, hb, ?_, rest⟩
    rw [hf.block g (Array.getElem?_eq_some_iff.1 hgg).1 (hd g rfl)]
    exact hgg
theorem OwnN.frNo (h : OwnN w F e size v n xs) (hf : Fr No w w') : OwnN w' F e size v n xs := h.fr' hf fun _ _ hi => hi
theorem OwnN.mono (h : OwnN w F e size v n xs) (hFG : ∀ i, F i → G i) : OwnN w G e size v n xs := ⟨h.1, fun g hg => hFG g (h.2 g hg)⟩
theorem OwnN.form (h : OwnN w F e size v n xs) : ∃ A cap, v = .slice A n cap ∧ (A = none → n = 0) := ownsRow_slice_form h.1
theorem OwnN.nil (w : World) (F : Nat → Prop) (e : TypeId) (size : Nat) : OwnN w F e size (.slice none 0 0) 0 [] := ⟨World.ownsRow_nil _ _ _ _, fun g hg => by cases hg⟩
theorem OwnN.cap {A : Option Addr} {c : Nat} (h : OwnN w F e size (.slice A n c) n xs) : n ≤ c ∧ c ≤ maxLen := by
  rcases h.1.2 with ⟨hv, h0⟩ | ⟨g, cap, cur, hv, hb, hgg, hnc, hcm, hcs, htk⟩
  · injection hv with e1 e2 e3
    omega
  · injection hv with e1 e2 e3
    subst e3
    exact ⟨hnc, hcm⟩
theorem OwnN.cut {A : Option Addr} {c k : Nat} (h : OwnN w F e size (.slice A n c) n xs) (hk : k ≤ n) : OwnN w F e size (.slice A k c) k (xs.take (k * size)) := by
  have hle : k * size ≤ n * size := Nat.mul_le_mul_right _ hk
  refine ⟨⟨by rw [List.length_take, h.1.1]; omega, ?_⟩, fun g hg => h.2 g (by rcases A with _ | a <;> exact hg)⟩
  rcases h.1.2 with ⟨hv, h0⟩ | ⟨g, cap, cur, hv, hb, hgg, hnc, hcm, hcs, htk⟩
  · injection hv with e1 e2 e3
    subst e1 e3
    obtain rfl : k = 0 := by omega
    exact .inl ⟨rfl, rfl⟩
  · injection hv with e1 e2 e3
    subst e1 e3
    refine .inr ⟨g, c, cur, rfl, hb, hgg, by omega, hcm, hcs, ?_⟩
    rw [← htk, List.take_take]
    congr 1
    omega
theorem OwnN.ne_blk {g : Nat} {t : TypeId} {cs : Array Value} (h : OwnN w F e size v n xs) (hb : Blk w g t cs) (hne : e ≠ t) : ∀ k, v.ownBlock = some k → k ≠ g := by
  intro k hk
  rcases h.1.2 with ⟨rfl, _⟩ | ⟨g', cap, cur, rfl, _, hh, _⟩
  · cases hk
  · rintro rfl
    obtain rfl : g' = k := by simpa [Value.ownBlock] using hk
    unfold Blk at hb
    rw [hh] at hb
    injection hb with hb
    injection hb with _ ht
    exact hne ht
/-- The cells of the rows. -/
theorem OwnN.head {A : Option Addr} {c : Nat} (h : OwnN w F e size (.slice A n c) n xs) (hp : 0 < n) :
    ∃ b, A = some ⟨b, 0, none⟩ ∧ b < w.heap.size ∧ F b ∧ ∀ k, k < xs.length → w.cell? ⟨b, k, none⟩ = xs[k]? := by
  rcases h.1.2 with ⟨hv, h0⟩ | ⟨g, cap, cur, hv, hb, hgg, hnc, hcm, hcs, htk⟩
  · omega
  · injection hv with e1 e2 e3
    subst e1 e3
    refine ⟨g, rfl, (Array.getElem?_eq_some_iff.1 hgg).1, h.2 g rfl, fun k hk => ?_⟩
    rw [cell_of_row w g k cur e (0, 0) hgg, ← htk]
    have : k < n * size := by rw [← h.1.1]; exact hk
    rw [List.getElem?_take, if_pos this, Array.getElem?_toList]
theorem OwnN.rd {A : Option Addr} {c : Nat} (h : OwnN w F e size (.slice A n c) n xs) : Rd w w.heap.size A xs := by
  by_cases h0 : xs = []
  · exact .inl h0
  · have hx : 0 < xs.length := by
      rcases xs with _ | ⟨x, xs⟩
      · exact absurd rfl h0
      · simp
    have hn : 0 < n := by
      rcases Nat.eq_zero_or_pos n with rfl | hn
      · rw [h.1.1, Nat.zero_mul] at hx; omega
      · exact hn
    obtain ⟨b, rfl, hb, _, hc⟩ := h.head hn
    exact .inr ⟨b, 0, rfl, hb, fun j hj => by rw [Nat.zero_add, hc j hj, List.getElem?_eq_getElem hj]⟩
theorem OwnN.appended (h : OwnN w F e size v n xs) {news : List Value} {m : Nat} {v' : Value} (ha : AppendedN w 0 e size v n xs news m v' w') :
    OwnN w' (fun i => F i ∨ (i = w.heap.size ∧ i < w'.heap.size)) e size v' (n + m) (xs ++ news) ∧ Fr F w w' := by
  refine ⟨⟨ha.1, fun g hg => ?_⟩, (Fr.refl F w).grown ha.2.1 fun k hk => .inl (h.2 k hk)⟩
  rcases ha.2.2 with e1 | e1
  · exact .inl (h.2 g (e1.symm.trans hg))
  · have hlt := (ha.1.lt g hg).2
    rw [e1] at hg
    injection hg with hg
    exact .inr ⟨hg.symm, hlt⟩
end
end Go.Proofs.Ytokblidfekbeeaa
/- The contract of slices.Delete for one message. -/
namespace Go.Proofs.Ytokblidfekbeeaa
open Go.ChangeShapes Go.WideShapes Go.ChangeAt Go.RowKit
set_option linter.unusedVariables false

abbrev TMq : TypeId := 76
theorem msq_info : (Try.prog.info? TMq).map (fun i => (i.zero, i.size, i.bytes)) = some (some (.agg #[.int .i64 0, .int .i64 0, .int .i64 0, .int .i64 0, .int .i64 0, .int .i64 0, .int .i64 0, .bool false, .slice none 0 0]), 9, 88) := by kernel_rfl
/-- Cells are written into a row, one after the other. -/
def putA (cur : Array Value) : Nat → List Value → Array Value
  | _, [] => cur
  | o, v :: r => putA (cur.setIfInBounds o v) (o + 1) r
theorem putA_size : ∀ (vs : List Value) (cur : Array Value) (o : Nat), (putA cur o vs).size = cur.size := by
  intro vs
  induction vs with
  | nil => intro cur o; rfl
  | cons v r ih => intro cur o; simp only [putA, ih, Array.size_setIfInBounds]
theorem putA_list : ∀ (vs : List Value) (cur : Array Value) (o : Nat), o + vs.length ≤ cur.size → (putA cur o vs).toList = cur.toList.take o ++ vs ++ cur.toList.drop (o + vs.length) := by
  intro vs
  induction vs with
  | nil => intro cur o _; simp [putA]
  | cons v r ih =>
    intro cur o h
    rw [List.length_cons] at h
    simp only [putA]
    rw [ih _ _ (by rw [Array.size_setIfInBounds]; omega), Array.toList_setIfInBounds]
    have hl : o < cur.toList.length := by rw [Array.length_toList]; omega
    rw [List.set_eq_take_append_cons_drop, if_pos hl]
    have ht : (cur.toList.take o).length = o := by rw [List.length_take]; omega
    have e1 : (cur.toList.take o ++ v :: cur.toList.drop (o + 1)).take (o + 1) = cur.toList.take o ++ [v] := by
      rw [List.take_append, ht, List.take_of_length_le (by omega), show o + 1 - o = 1 from by omega]
      rfl
    have e2 : (cur.toList.take o ++ v :: cur.toList.drop (o + 1)).drop (o + 1 + r.length) = cur.toList.drop (o + (r.length + 1)) := by
      rw [List.drop_append, ht, List.drop_of_length_le (by omega), show o + 1 + r.length - o = r.length + 1 from by omega, List.drop_succ_cons, List.drop_drop, List.nil_append]
      congr 1
      omega
    rw [e1, e2, List.length_cons]
    simp
theorem Blk.setCells {w : World} {g : Nat} {t : TypeId} : ∀ (vs : List Value) (o : Nat) {w : World} {cur : Array Value}, Blk w g t cur → Blk (w.setCells g o vs) g t (putA cur o vs) := by
  intro vs
  induction vs with
  | nil => intro o w cur h; exact h
  | cons v r ih => intro o w cur h; exact ih (o + 1) (h.set_ o v)
theorem Fr.setCells {F : Nat → Prop} {a : World} {g : Nat} (hg : F g ∨ a.heap.size ≤ g) : ∀ (vs : List Value) (o : Nat) {w : World}, Fr F a w → Fr F a (w.setCells g o vs) := by
  intro vs
  induction vs with
  | nil => intro o w h; exact h
  | cons v r ih => intro o w h; exact ih (o + 1) (h.setCell (p := ⟨g, o, none⟩) hg v)
/-- 'clear' of one element of many cells. -/
theorem run_clear_one {P : Program} (w : World) (t e ty : TypeId) (z : Value) (ht : P.underlying t = some (.slice e)) (hv : ∀ w, (zeroValue e).run P w = .ok z w) (hp : 0 < z.cells.size) (h1 : ∀ v ∈ z.cells.toList, v.oneCell' = true) (b o c : Nat)
    (hc : ∀ j, j < z.cells.size → (w.cell? ⟨b, o + j, none⟩).isSome = true) (hf : ∀ j, j < z.cells.size → w.frozen? ⟨b, o + j, none⟩ = false) :
    (Builtin.clear_ #[t] ty #[.slice (some ⟨b, o, none⟩) 1 c]).run P w = .ok (.tuple #[]) (w.setCells b o z.cells.toList) := by
  have hzc : (Builtin.zeroCells z.cells 1).toList = z.cells.toList := by
    simp only [Builtin.zeroCells, Nat.one_mul]
    apply List.ext_getElem
    · simp
    · intro i h1 h2
      have hi : i < z.cells.size := by simpa using h2
      simp [Nat.mod_eq_of_lt hi, getElem!_pos z.cells i hi]
  have hst := run_storeCells_cells (P := P) b o z.cells.toList 0 w (by simpa using hc) (by simpa using hf) h1
  simp only [Nat.add_zero] at hst
  simp [Builtin.clear_, run_underlying ht, hv, hzc, hst]
theorem run_to {P : Program} (t e : TypeId) (ht : P.underlying t = some (.slice e)) (i : TypeInfo) (hi : P.info? e = some i) (g n c k : Nat) (hk : k ≤ c) :
    ∀ w : World, (Instr.slice t (.slice (some ⟨g, 0, none⟩) n c) none (some (.int .i64 (k : Int))) none).run P w = .ok (.slice (some ⟨g, 0, none⟩) k c) w := by
  intro w
  have he : P.elem t = e := by simp [Program.elem, ht]
  rw [run_slice_h w t _ n c (by rw [he]; exact ht) .i64 (k : Int) (by omega) (by omega), he]
  simp [sizeOf, typeInfo, hi, sliced]
  intro _
  unfold Addr.add
  split <;> simp_all
theorem run_tail {P : Program} (t e : TypeId) (ht : P.underlying t = some (.slice e)) (i : TypeInfo) (hi : P.info? e = some i) (g n c k : Nat) (hk : k ≤ n) :
    ∃ ad : Addr, (∀ w : World, (Instr.slice t (.slice (some ⟨g, 0, none⟩) n c) (some (.int .i64 (k : Int))) none none).run P w = .ok (.slice (some ad) (n - k) (c - k)) w) ∧ (c ≠ k → ad = ⟨g, k * i.size, none⟩) := by
  have he : P.elem t = e := by simp [Program.elem, ht]
  refine ⟨if c = k then ⟨g, 0, none⟩ else ⟨g, k * i.size, none⟩, fun w => ?_, fun h => if_neg h⟩
  rw [run_slice_l w t _ n c (by rw [he]; exact ht) .i64 (k : Int) (by omega) (by omega), he]
  simp [sizeOf, typeInfo, hi, sliced]
  split
  · rfl
  · unfold Addr.add
    split <;> simp_all
theorem run_last {P : Program} (t e : TypeId) (ht : P.underlying t = some (.slice e)) (i : TypeInfo) (hi : P.info? e = some i) (g k c : Nat) (hk : k + 1 ≤ c) :
    ∀ w : World, (Instr.slice t (.slice (some ⟨g, 0, none⟩) k c) (some (.int .i64 (k : Int))) (some (.int .i64 ((k + 1 : Nat) : Int))) none).run P w = .ok (.slice (some ⟨g, k * i.size, none⟩) 1 (c - k)) w := by
  intro w
  have he : P.elem t = e := by simp [Program.elem, ht]
  rw [run_slice_lh w t _ k c (by rw [he]; exact ht) .i64 .i64 (k : Int) ((k + 1 : Nat) : Int) (by omega) (by omega) (by omega), he]
  simp [sizeOf, typeInfo, hi, sliced]
  rw [if_neg (by omega)]
  unfold Addr.add
  split <;> simp_all

set_option maxRecDepth 100000 in
set_option maxHeartbeats 4000000 in
theorem del_any {w : World} {F : Nat → Prop} {A : Option Addr} {c n : Nat} {xs : List Value} (h : OwnN w F TMq 9 (.slice A n c) n xs) (hone0 : ∀ u ∈ xs, u.oneCell' = true) {i r : Nat} (hn : n = i + 1 + r) :
    Calls Try.prog 53 #[.slice A n c, .int .i64 (i : Int), .int .i64 ((i + 1 : Nat) : Int)] w fun e w' => e = .returned (.slice A (i + r) c) ∧ OwnN w' F TMq 9 (.slice A (i + r) c) (i + r) (xs.take (i * 9) ++ xs.drop ((i + 1) * 9)) ∧ Fr F w w' := by
  obtain ⟨i0, hi0, hz0, hz1, hz2⟩ := info_parts msq_info
  have hxl : xs.length = n * 9 := h.1.1
  rcases h.1.2 with ⟨-, h0⟩ | ⟨g, cap, cur, hv, hb, hgg, hnc, hcm, hcs, htk⟩
  · omega
  injection hv with e1 e2 e3
  subst e1 e3
  have hFg : F g := h.2 g rfl
  have ht : Try.prog.underlying 56 = some (.slice TMq) := by kernel_rfl
  have hblk : Blk w g TMq cur := hgg
  have hcur : ∀ k, k < n * 9 → cur[k]? = xs[k]? := fun k hk => by rw [← htk, List.getElem?_take, if_pos hk, Array.getElem?_toList]
  obtain ⟨news, hnews⟩ : ∃ news, news = xs.drop ((i + 1) * 9) := ⟨_, rfl⟩
  have hnl : news.length = r * 9 := by rw [hnews, List.length_drop]; omega
  obtain ⟨ad, hs2, had⟩ := run_tail 56 TMq ht i0 hi0 g n c (i + 1) (by omega)
  have hs1 := run_to 56 TMq ht i0 hi0 g n c i (by omega)
  have hs3 := run_last 56 TMq ht i0 hi0 g (i + r) c (by omega)
  rw [hz1] at had hs3
  rw [show n - (i + 1) = r from by omega] at hs2
  have hsrc : ∀ j u, news[j]? = some u → w.drew.cell? (ad.add j) = some u := by
    intro j u hu
    have hj := (List.getElem?_eq_some_iff.1 hu).1
    rw [had (by omega)]
    have ea : (⟨g, (i + 1) * 9, none⟩ : Addr).add j = ⟨g, (i + 1) * 9 + j, none⟩ := by unfold Addr.add; split <;> simp_all
    rw [ea]
    show w.cell? _ = _
    rw [hblk.cell, hcur _ (by omega)]
    rw [hnews, List.getElem?_drop] at hu
    exact hu
  have hone : ∀ u ∈ news, u.oneCell' = true := fun u hu => hone0 u (by rw [hnews] at hu; exact List.mem_of_mem_drop hu)
  have hsp : ∀ j, j < news.length → (w.drew.cell? ⟨g, 0 + i * 9 + j, none⟩).isSome = true ∧ w.drew.frozen? ⟨g, 0 + i * 9 + j, none⟩ = false := by
    intro j hj
    refine ⟨?_, hblk.frozen _⟩
    show (w.cell? _).isSome = true
    rw [hblk.cell, Array.getElem?_eq_getElem (by omega)]
    rfl
  obtain ⟨W1, hW1⟩ : ∃ W1, W1 = w.drew.setCells g (0 + i * 9) news := ⟨_, rfl⟩
  have hb1 : Blk W1 g TMq (putA cur (i * 9) news) := by
    rw [hW1, Nat.zero_add]
    exact Blk.setCells (w := w) news (i * 9) (show Blk w.drew g TMq cur from hblk)
  have hf1 : Fr F w W1 := by rw [hW1]; exact Fr.setCells (.inl hFg) news _ (Fr.refl F w).drew
  have hs : (putA cur (i * 9) news).size = cur.size := putA_size _ _ _
  obtain ⟨zc, hzc⟩ : ∃ zc : List Value, zc = (Value.cells (.agg #[.int .i64 0, .int .i64 0, .int .i64 0, .int .i64 0, .int .i64 0, .int .i64 0, .int .i64 0, .bool false, .slice none 0 0])).toList := ⟨_, rfl⟩
  have hzl : zc.length = 9 := by rw [hzc]; rfl
  have hcl : ∀ ty, (Builtin.clear_ #[56] ty #[.slice (some ⟨g, (i + r) * 9, none⟩) 1 (c - (i + r))]).run Try.prog W1 = .ok (.tuple #[]) (W1.setCells g ((i + r) * 9) zc) := by
    intro ty
    rw [hzc]
    refine run_clear_one W1 _ TMq ty _ ht (fun w => by simp [zeroValue, typeInfo, hi0, hz0]) (by decide) (by intro v hv; simp [Value.cells] at hv; rcases hv with rfl | rfl | rfl <;> rfl) g _ _ (fun j hj => ?_) (fun j hj => hb1.frozen _)
    have hj : j < 9 := hj
    rw [hb1.cell, Array.getElem?_eq_getElem (by omega)]
    rfl
  have hfin : OwnN (W1.setCells g ((i + r) * 9) zc) F TMq 9 (.slice (some ⟨g, 0, none⟩) (i + r) c) (i + r) (xs.take (i * 9) ++ xs.drop ((i + 1) * 9)) ∧ Fr F w (W1.setCells g ((i + r) * 9) zc) := by
    have hb2 := Blk.setCells (w := w) zc ((i + r) * 9) hb1
    refine ⟨⟨⟨by rw [List.length_append, List.length_take, List.length_drop]; omega, .inr ⟨g, c, _, rfl, Nat.zero_le _, hb2, by omega, hcm, by rw [putA_size, hs, hcs], ?_⟩⟩, fun g' hg' => h.2 g' hg'⟩, Fr.setCells (.inl hFg) zc _ hf1⟩
    have h1 : cur.toList.take (i * 9) = xs.take (i * 9) := by rw [← htk, List.take_take]; congr 1; omega
    have hll : (cur.toList.take (i * 9) ++ news).length = (i + r) * 9 := by rw [List.length_append, List.length_take, hnl, Array.length_toList]; omega
    rw [putA_list zc _ _ (by rw [hs, hzl]; omega), putA_list news cur _ (by omega), List.append_assoc (List.take _ _), List.take_append_of_le_length (by rw [List.length_take, List.length_append, hll]; omega), List.take_take, Nat.min_self, List.take_append_of_le_length (by omega), List.take_of_length_le (by omega), h1, hnews]
  have HFIN := Lib.hid hfin
  have HW1 := Lib.hid hW1
  have S1 := Lib.hid hsrc
  have S2 := Lib.hid hone
  have S3 := Lib.hid hsp
  have S4 := Lib.hid hnl
  clear hfin hW1 hsrc hone hsp hnl hb1 hf1 hs hzl hblk hcur hnews hgg htk hcs had h hone0 hxl hb
  have hij : (i : Int) + 1 ≤ (n : Int) := by omega
  have hnc2 : (n : Int) ≤ (c : Int) := by omega
  subst hn
  have HZC := Lib.hid hzc
  clear hzc
  rw [show ((i + 1 : Nat) : Int) = (i : Int) + 1 from by omega] at hs2
  rw [show ((i + r + 1 : Nat) : Int) = (i : Int) + 1 + (r : Int) from by omega] at hs3
  rw [show ((i + r : Nat) : Int) = (i : Int) + (r : Int) from by omega] at hs3
  go_enter Try.func53, Try.ntmps53
  go_wp2_with fail
  go_region_law (refine step_append_room rfl (.tmp 22) (.tmp 25) 56 rfl TMq i0 9 ht hi0 hz1 g 0 i c (by simp [Act.eval, Act.put]) ad r (c - (i + 1)) news (by simp [Act.eval, Act.put]) S4.out S1.out S2.out (by omega) S3.out ?_; rw [← HW1.out])
  go_wp2_with fail
  go_ret
  exact ⟨rfl, HFIN.out.1, HFIN.out.2⟩
end Go.Proofs.Ytokblidfekbeeaa
