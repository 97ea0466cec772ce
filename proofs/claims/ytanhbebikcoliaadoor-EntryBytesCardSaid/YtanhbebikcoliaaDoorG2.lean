/-
  Several texts in one: Fr, EntV, Tap, OwnN, Same.
-/
import Derived.Test.YtanhbebikcoliaaDoorApp
import Derived.Laws.Rows
import Derived.Test.YtanhbebikcoliaaDoorG0
import Derived.Test.YtanhbebikcoliaaDoorG1
/- Frames with footprints: which blocks a call may have turned; rows that a structure owns. -/
namespace Go.Proofs.YtanhbebikcoliaaDoor
open Go.ChangeShapes Go.WideShapes Go.ChangeAt Go.RowKit

/-- Of the blocks that were there, only those of F may have turned. -/
structure Fr (F : Nat → Prop) (w w' : World) : Prop where
  os : w'.os = w.os
  tape : w'.tape = w.tape
  output : w'.output = w.output
  size : w.heap.size ≤ w'.heap.size
  block : ∀ i, i < w.heap.size → ¬ F i → w'.heap[i]? = w.heap[i]?

/-- No block. -/
abbrev No : Nat → Prop := fun _ => False

section
variable {F G : Nat → Prop} {a w w' w'' : World}
theorem Fr.refl (F : Nat → Prop) (w : World) : Fr F w w := ⟨rfl, rfl, rfl, Nat.le_refl _, fun _ _ _ => rfl⟩
theorem Fr.trans (h : Fr F w w') (k : Fr G w' w'') (hG : ∀ i, G i → F i ∨ w.heap.size ≤ i) : Fr F w w'' :=
  ⟨k.os.trans h.os, k.tape.trans h.tape, k.output.trans h.output, Nat.le_trans h.size k.size, fun i hi hn =>
    (k.block i (Nat.lt_of_lt_of_le hi h.size) (fun hg => by
      rcases hG i hg with h1 | h1
      · exact hn h1
      · omega)).trans (h.block i hi hn)⟩
theorem Fr.mono (h : Fr F w w') (hFG : ∀ i, F i → G i) : Fr G w w' := ⟨h.os, h.tape, h.output, h.size, fun i hi hn => h.block i hi fun hf => hn (hFG i hf)⟩
theorem Fr.drew (h : Fr F a w) : Fr F a w.drew := ⟨h.os, h.tape, h.output, h.size, h.block⟩
theorem Fr.drewN (h : Fr F a w) (n : Nat) : Fr F a (w.drewN n) := ⟨h.os, h.tape, h.output, h.size, h.block⟩
theorem Fr.alloc (h : Fr F a w) (o : Obj) : Fr F a (w.alloc o) :=
  ⟨h.os, h.tape, h.output, Nat.le_trans h.size (by simp), fun i hi hn => (Below.heap_alloc w o i (Nat.lt_of_lt_of_le hi h.size)).trans (h.block i hi hn)⟩
theorem Fr.setCell (h : Fr F a w) {p : Addr} (hp : F p.block ∨ a.heap.size ≤ p.block) (u : Value) : Fr F a (w.setCell p u) :=
  ⟨h.os, h.tape, h.output, by simpa [World.setCell] using h.size, fun i hi hn => (Below.heap_setCell w p u i (by
    rintro rfl
    rcases hp with hp | hp
    · exact hn hp
    · omega)).trans (h.block i hi hn)⟩
theorem Fr.grown (h : Fr F a w) {row : Option Nat} (hg : w.grownBy w' row) (hr : ∀ k, row = some k → F k ∨ a.heap.size ≤ k) : Fr F a w' :=
  ⟨hg.os.trans h.os, hg.tape.trans h.tape, hg.output.trans h.output, Nat.le_trans h.size hg.size, fun i hi hn =>
    (hg.block i (Nat.lt_of_lt_of_le hi h.size) (fun e => by
      rcases hr i e.symm with h1 | h1
      · exact hn h1
      · omega)).trans (h.block i hi hn)⟩
theorem Fr.cell (h : Fr F w w') {p : Addr} (hp : p.block < w.heap.size) (hn : ¬ F p.block) : w'.cell? p = w.cell? p := World.cell?_of_block (w := w) (h.block p.block hp hn)
theorem Fr.frozen (h : Fr F w w') {p : Addr} (hp : p.block < w.heap.size) (hn : ¬ F p.block) : w'.frozen? p = w.frozen? p := World.frozen?_of_block (w := w) (h.block p.block hp hn)
theorem Fr.below (h : Fr F w w') {B : Nat} (hB : B ≤ w.heap.size) (hF : ∀ i, F i → B ≤ i) : Below B w w' :=
  ⟨h.os, h.tape, h.output, h.size, fun i hi => h.block i (by omega) fun hf => by have := hF i hf; omega⟩
theorem Fr.of_below (h : Below w.heap.size w w') : Fr No w w' := ⟨h.os, h.tape, h.output, h.size, fun i hi _ => h.block i hi⟩
theorem Fr.rd (h : Fr F w w') {B : Nat} {A : Option Addr} {xs : List Value} (hr : Rd w B A xs) (hB : B ≤ w.heap.size) (hF : ∀ i, F i → B ≤ i) : Rd w' B A xs :=
  hr.below (h.below hB hF)
end

/-- A slice value that owns its cells: a row at the head of a block of F (or nil). -/
def Own (w : World) (F : Nat → Prop) (e : TypeId) (v : Value) (xs : List Value) : Prop :=
  w.ownsRow 0 e 1 v xs.length xs ∧ ∀ g, v.ownBlock = some g → F g

section
variable {w w' : World} {F G : Nat → Prop} {e : TypeId} {v : Value} {xs : List Value}
theorem Own.lt (h : Own w F e v xs) : ∀ g, v.ownBlock = some g → g < w.heap.size := fun g hg => (h.1.lt g hg).2
theorem Own.fr' (h : Own w F e v xs) (hf : Fr G w w') (hd : ∀ g, v.ownBlock = some g → ¬ G g) : Own w' F e v xs := by
  refine ⟨⟨h.1.1, ?_⟩, h.2⟩
  rcases h.1.2 with hn | ⟨g, cap, cur, rfl, hb, hgg, rest⟩
  · exact .inl hn
  · refine .inr ⟨g, cap, cur, rfl, hb, ?_, rest⟩
    rw [hf.block g (Array.getElem?_eq_some_iff.1 hgg).1 (hd g rfl)]
    exact hgg
theorem Own.fr (h : Own w F e v xs) (hf : Fr G w w') (hd : ∀ i, F i → ¬ G i) : Own w' F e v xs := h.fr' hf fun g hg => hd g (h.2 g hg)
theorem Own.own (h : Own w F e v xs) {n : Nat} (hn : xs.length = n) : w.ownsRow 0 e 1 v n xs := hn ▸ h.1
theorem Own.mono (h : Own w F e v xs) (hFG : ∀ i, F i → G i) : Own w G e v xs := ⟨h.1, fun g hg => hFG g (h.2 g hg)⟩
theorem Own.form (h : Own w F e v xs) : ∃ A cap, v = .slice A xs.length cap ∧ (A = none → xs.length = 0) := ownsRow_slice_form h.1
theorem Own.nil (w : World) (F : Nat → Prop) (e : TypeId) : Own w F e (.slice none 0 0) [] := ⟨World.ownsRow_nil _ _ _ _, fun g hg => by cases hg⟩
theorem Own.rd {A : Option Addr} {n c : Nat} (h : Own w F e (.slice A n c) xs) : Rd w w.heap.size A xs := by
  have h1 := h.1
  obtain ⟨A', cap', hv, _⟩ := ownsRow_slice_form h1
  injection hv with e1 e2 e3
  subst e1 e2 e3
  exact Rd.of_own h1
theorem Own.len {A : Option Addr} {n c : Nat} (h : Own w F e (.slice A n c) xs) : n = xs.length ∧ (A = none → n = 0) := by
  obtain ⟨A', cap', hv, hn⟩ := h.form
  injection hv with e1 e2 e3
  subst e1 e2 e3
  exact ⟨rfl, hn⟩
theorem Own.appended (h : Own w F e v xs) {news : List Value} {n m : Nat} (hn : xs.length = n) (hm : news.length = m) {v' : Value} (ha : Appended w 0 e v n xs news m v' w') :
    Own w' (fun i => F i ∨ (i = w.heap.size ∧ i < w'.heap.size)) e v' (xs ++ news) ∧ Fr F w w' := by
  subst hm hn
  refine ⟨⟨by rw [List.length_append]; exact ha.1, fun g hg => ?_⟩, (Fr.refl F w).grown ha.2.1 fun k hk => .inl (h.2 k hk)⟩
  rcases ha.2.2 with e1 | e1
  · exact .inl (h.2 g (e1.symm.trans hg))
  · have hlt := (ha.1.lt g hg).2
    rw [e1] at hg
    injection hg with hg
    exact .inr ⟨hg.symm, hlt⟩
theorem Own.cap {A : Option Addr} {n c : Nat} (h : Own w F e (.slice A n c) xs) : n ≤ c ∧ c ≤ maxLen := by
  obtain ⟨rfl, hn⟩ := h.len
  rcases h.1.2 with ⟨hv, h0⟩ | ⟨g, cap, cur, hv, hb, hgg, hnc, hcm, hcs, htk⟩
  · injection hv with e1 e2 e3
    omega
  · injection hv with e1 e2 e3
    subst e3
    exact ⟨hnc, hcm⟩
/-- A row cut at k. -/
theorem Own.cut {A : Option Addr} {n c k : Nat} (h : Own w F e (.slice A n c) xs) (hk : k ≤ n) : Own w F e (.slice A k c) (xs.take k) := by
  obtain ⟨rfl, hn⟩ := h.len
  have hlen : (xs.take k).length = k := by rw [List.length_take]; omega
  refine ⟨⟨by rw [hlen]; omega, ?_⟩, fun g hg => h.2 g (by rcases A with _ | a <;> exact hg)⟩
  rw [hlen]
  rcases h.1.2 with ⟨hv, h0⟩ | ⟨g, cap, cur, hv, hb, hgg, hnc, hcm, hcs, htk⟩
  · injection hv with e1 e2 e3
    subst e1 e3
    obtain rfl : k = 0 := by omega
    exact .inl ⟨rfl, rfl⟩
  · injection hv with e1 e2 e3
    subst e1 e3
    refine .inr ⟨g, c, cur, rfl, hb, hgg, by omega, hcm, hcs, ?_⟩
    rw [Nat.mul_one] at htk ⊢
    rw [← htk, List.take_take]
    congr 1
    omega
end

/-- A block that is known whole, none of it frozen. -/
def Blk (w : World) (g : Nat) (t : TypeId) (cs : Array Value) : Prop := w.heap[g]? = some (.cells cs t (0, 0))
section
variable {w w' : World} {F : Nat → Prop} {g : Nat} {t : TypeId} {cs : Array Value}
theorem Blk.lt (h : Blk w g t cs) : g < w.heap.size := (Array.getElem?_eq_some_iff.1 h).1
theorem Blk.cell (h : Blk w g t cs) (i : Nat) : w.cell? ⟨g, i, none⟩ = cs[i]? := cell_of_row w g i cs t (0, 0) h
theorem Blk.frozen (h : Blk w g t cs) (i : Nat) : w.frozen? ⟨g, i, none⟩ = false := by
  unfold Blk at h
  simp [World.frozen?, h]
theorem Blk.new (w : World) (t : TypeId) (cs : Array Value) : Blk (w.alloc (.cells cs t)) w.heap.size t cs := heap_alloc_new w _
theorem Blk.fr (h : Blk w g t cs) (hf : Fr F w w') (hn : ¬ F g) : Blk w' g t cs := (hf.block g h.lt hn).trans h
theorem Blk.set_ (h : Blk w g t cs) (i : Nat) (u : Value) : Blk (w.setCell ⟨g, i, none⟩ u) g t (cs.setIfInBounds i u) := by
  unfold Blk at h ⊢
  simp [World.setCell, Array.getElem?_modify, h]
theorem fr_set (w : World) (p : Addr) (u : Value) : Fr (fun i => i = p.block) w (w.setCell p u) := (Fr.refl (fun i => i = p.block) w).setCell (p := p) (.inl rfl) u
theorem Own.ne_blk {e : TypeId} {v : Value} {xs : List Value} (h : Own w F e v xs) (hb : Blk w g t cs) (hne : e ≠ t) : ∀ k, v.ownBlock = some k → k ≠ g := by
  intro k hk
  rcases h.1.2 with ⟨rfl, _⟩ | ⟨g', cap, cur, rfl, _, hh, _⟩
  · cases hk
  · rintro rfl
    obtain rfl : g' = k := by simpa [Value.ownBlock] using hk
    unfold Blk at hb
    rw [hh] at hb
    injection hb with hb
    injection hb with _ ht
    exact hne ht
end
/-- A new block of one-cell elements reads as its cells. -/
theorem Rd.new (w : World) (cs : List Value) (t : TypeId) {xs : List Value} (h : cs = xs) : Rd (w.alloc (.cells cs.toArray t)) (w.heap.size + 1) (some ⟨w.heap.size, 0, none⟩) xs := by
  subst h
  refine .inr ⟨_, 0, rfl, by omega, fun j hj => ?_⟩
  rw [(Blk.new w t cs.toArray).cell, Nat.zero_add]
  simp [List.getElem?_eq_getElem hj]
theorem Rd.fr {w w' : World} {F : Nat → Prop} {B : Nat} {A : Option Addr} {xs : List Value} (hr : Rd w B A xs) (h : Fr F w w') (hB : B ≤ w.heap.size) (hF : ∀ i, F i → B ≤ i) : Rd w' B A xs := h.rd hr hB hF
theorem Rd.frNo {w w' : World} {B : Nat} {A : Option Addr} {xs : List Value} (hr : Rd w B A xs) (h : Fr No w w') (hB : B ≤ w.heap.size) : Rd w' B A xs := h.rd hr hB fun _ hi => hi.elim
theorem Own.frNo {w w' : World} {F : Nat → Prop} {e : TypeId} {v : Value} {xs : List Value} (h : Own w F e v xs) (hf : Fr No w w') : Own w' F e v xs := h.fr hf fun _ _ hi => hi
theorem fr_alloc (w : World) (o : Obj) : Fr No w (w.alloc o) := (Fr.refl _ _).alloc o
theorem Fr.transNo {w w' w'' : World} (h : Fr No w w') (k : Fr No w' w'') : Fr No w w'' := h.trans k fun _ hi => hi.elim
/-- A structure of the call's own has turned. -/
theorem Fr.transNew {w w' w'' : World} {F : Nat → Prop} (h : Fr No w w') (k : Fr F w' w'') (hF : ∀ i, F i → w.heap.size ≤ i) : Fr No w w'' := h.trans k fun i hi => .inr (hF i hi)
theorem Fr.belowNo {w w' : World} (h : Fr No w w') : Below w.heap.size w w' := h.below (Nat.le_refl _) fun _ hi => hi.elim

/-- A footprint that does not hold the row of a slice. -/
def Apart (F : Nat → Prop) (v : Value) : Prop := ∀ g, v.ownBlock = some g → ¬ F g
theorem Apart.next {w : World} {F F' G : Nat → Prop} {e : TypeId} {v : Value} {xs : List Value} (h : Apart F v) (ho : Own w G e v xs) (hs : ∀ i, F' i → F i ∨ w.heap.size ≤ i) : Apart F' v := by
  intro g hg hf
  have := ho.lt g hg
  rcases hs g hf with h1 | h1
  · exact h g hg h1
  · omega
theorem Apart.new {F : Nat → Prop} {w' : World} {B : Nat} {e : TypeId} {v : Value} {xs : List Value} (ho : Own w' (fun i => B ≤ i) e v xs) (hF : ∀ i, F i → i < B) : Apart F v := by
  intro g hg hf
  have h1 := ho.2 g hg
  have h2 := hF g hf
  simp only at h1
  omega

/-- '[]T{}'. -/
theorem Own.made (w : World) (e : TypeId) : Own (w.alloc (.cells #[] e)) (fun i => w.heap.size ≤ i) e (.slice (some ⟨w.heap.size, 0, none⟩) 0 0) [] :=
  ⟨World.ownsRow_made w #[] 0 (Nat.zero_le _) (Nat.zero_le _) rfl, fun g hg => by simp [Value.ownBlock] at hg; omega⟩
/-- An append onto a row of the call's own, made since block B. -/
theorem Own.appendedNew {w w' : World} {B : Nat} {e : TypeId} {v : Value} {xs : List Value} (h : Own w (fun i => B ≤ i) e v xs) (hB : B ≤ w.heap.size) {news : List Value} {n m : Nat} (hn : xs.length = n) (hm : news.length = m) {v' : Value} (ha : Appended w 0 e v n xs news m v' w') :
    Own w' (fun i => B ≤ i) e v' (xs ++ news) ∧ Fr (fun i => B ≤ i) w w' := by
  obtain ⟨h1, h2⟩ := h.appended hn hm ha
  exact ⟨h1.mono fun i hi => by rcases hi with hi | hi <;> omega, h2⟩

/-- An append onto a row that lies in F or was made since block B. -/
theorem Own.appendedF {w w' : World} {F : Nat → Prop} {B : Nat} {e : TypeId} {v : Value} {xs : List Value} (h : Own w (fun i => F i ∨ B ≤ i) e v xs) (hB : B ≤ w.heap.size) {news : List Value} {n m : Nat} (hn : xs.length = n) (hm : news.length = m) {v' : Value} (ha : Appended w 0 e v n xs news m v' w') :
    Own w' (fun i => F i ∨ B ≤ i) e v' (xs ++ news) ∧ Fr (fun i => F i ∨ B ≤ i) w w' := by
  obtain ⟨h1, h2⟩ := h.appended hn hm ha
  refine ⟨h1.mono fun i hi => ?_, h2⟩
  rcases hi with hi | hi
  · exact hi
  · exact .inr (by omega)
theorem Fr.transF {w w1 w2 : World} {F : Nat → Prop} (h : Fr F w w1) (k : Fr (fun i => F i ∨ w.heap.size ≤ i) w1 w2) : Fr F w w2 := h.trans k fun _ hi => hi

/-- What 'append([]T{}, src...)' leaves, draws between let by. -/
theorem Own.copied {w W w1 : World} {e : TypeId} {news : List Value} {m : Nat} {v' : Value} (happ : Appended W 0 e (.slice (some ⟨w.heap.size, 0, none⟩) 0 0) 0 [] news m v' w1) (hW : W.heap = (w.alloc (.cells #[] e)).heap) (hm : news.length = m) :
    Own w1 (fun i => w.heap.size ≤ i) e v' news ∧ Fr (fun i => w.heap.size ≤ i) W w1 := by
  have ho : Own W (fun i => w.heap.size ≤ i) e (.slice (some ⟨w.heap.size, 0, none⟩) 0 0) [] := by
    have := Own.made w e
    unfold Own World.ownsRow at this ⊢
    rwa [hW]
  have := ho.appendedNew (by rw [hW]; simp) rfl hm happ
  rwa [List.nil_append] at this

/-- A row's head and its cells. -/
theorem own_head {w : World} {F : Nat → Prop} {e : TypeId} {A : Option Addr} {n c : Nat} {xs : List Value} (h : Own w F e (.slice A n c) xs) (hp : 0 < n) :
    ∃ b, A = some ⟨b, 0, none⟩ ∧ b < w.heap.size ∧ F b ∧ ∀ k, (hk : k < xs.length) → w.cell? ⟨b, k, none⟩ = some xs[k] ∧ w.frozen? ⟨b, k, none⟩ = false := by
  obtain ⟨rfl, _⟩ := h.len
  obtain ⟨g, cap, hv, _, hlt⟩ := h.1.form hp
  injection hv with e1 e2 e3
  subst e1 e3
  refine ⟨g, rfl, hlt, h.2 g rfl, fun k hk => ⟨?_, h.1.frozenAt k⟩⟩
  rw [h.1.cellAt k (by omega), List.getElem?_eq_getElem hk]

/-- A store into a row of the call's own. -/
theorem own_stored {w : World} {F : Nat → Prop} {e : TypeId} {b n c : Nat} {xs : List Value} (h : Own w F e (.slice (some ⟨b, 0, none⟩) n c) xs) (k : Nat) (u : Value) :
    Own (w.setCell ⟨b, k, none⟩ u) F e (.slice (some ⟨b, 0, none⟩) n c) (xs.set k u) ∧ Fr F w (w.setCell ⟨b, k, none⟩ u) := by
  obtain ⟨rfl, _⟩ := h.len
  refine ⟨⟨?_, h.2⟩, (Fr.refl F w).setCell (p := ⟨b, k, none⟩) (.inl (h.2 b rfl)) u⟩
  have := (h.1.stored k u).1
  rwa [List.length_set]

end Go.Proofs.YtanhbebikcoliaaDoor
/- Entries as values. -/
namespace Go.Proofs.YtanhbebikcoliaaDoor
open Go.ChangeShapes Go.WideShapes Go.ChangeAt Go.RowKit
set_option linter.unusedVariables false

/-- An entry as a value. -/
def En.v (e : En) : Value := .agg #[.int .i64 e.kind, .int .i64 e.tick, .int .i64 e.tenant, .int .i64 e.cell, .int .i64 e.other, .int .i64 e.epoch, .int .i64 e.from_, .int .i64 e.until_, .int .i64 e.n]
abbrev TEnt : TypeId := 24
theorem ent_cells {w : World} {g : Nat} {a b c d e f x y z : Value} (h : Blk w g TEnt #[a, b, c, d, e, f, x, y, z]) : w.cell? ⟨g, 0, none⟩ = some a ∧ w.cell? ⟨g, 1, none⟩ = some b ∧ w.cell? ⟨g, 2, none⟩ = some c ∧ w.cell? ⟨g, 3, none⟩ = some d ∧ w.cell? ⟨g, 4, none⟩ = some e ∧ w.cell? ⟨g, 5, none⟩ = some f ∧ w.cell? ⟨g, 6, none⟩ = some x ∧ w.cell? ⟨g, 7, none⟩ = some y ∧ w.cell? ⟨g, 8, none⟩ = some z :=
  ⟨h.cell 0, h.cell 1, h.cell 2, h.cell 3, h.cell 4, h.cell 5, h.cell 6, h.cell 7, h.cell 8⟩

theorem blk_drew {w : World} {g : Nat} {t : TypeId} {cs : Array Value} (h : Blk w g t cs) : Blk w.drew g t cs := h
end Go.Proofs.YtanhbebikcoliaaDoor
/- The tape of numbers. -/
namespace Go.Proofs.YtanhbebikcoliaaDoor
open Go.ChangeShapes Go.WideShapes Go.ChangeAt Go.RowKit
set_option linter.unusedVariables false
abbrev TTp : TypeId := 90
theorem Blk.cv {w : World} {g : Nat} {t : TypeId} {cs cs' : Array Value} (h : Blk w g t cs) (e : cs = cs') : Blk w g t cs' := e ▸ h
/-- A list of numbers that is read; it does not lie in block t. -/
def RowI (w : World) (t : Nat) (A : Option Addr) (n : Nat) : Prop :=
  n = 0 ∨ ∃ b off, A = some ⟨b, off, none⟩ ∧ b ≠ t ∧ b < w.heap.size ∧ ∀ i, i < n → ∃ x : Int, w.cell? ⟨b, off + i, none⟩ = some (.int .i64 x)
theorem RowI.fr {w w' : World} {F : Nat → Prop} {t : Nat} {A : Option Addr} {n : Nat} (h : RowI w t A n) (hf : Fr F w w') (hF : ∀ i, F i → i = t) : RowI w' t A n := by
  rcases h with h | ⟨b, off, e1, e2, e3, e4⟩
  · exact .inl h
  · exact .inr ⟨b, off, e1, e2, Nat.lt_of_lt_of_le e3 hf.size, fun i hi => let ⟨x, hx⟩ := e4 i hi; ⟨x, (hf.cell (p := ⟨b, off + i, none⟩) e3 (fun h => e2 (hF b h))).trans hx⟩⟩
/-- The tape at block t. -/
structure Tp (w : World) (t : Nat) (A : Option Addr) (n c at' : Nat) : Prop where
  blk : Blk w t TTp #[.slice A n c, .int .i64 (at' : Int)]
  row : RowI w t A n
  len : n ≤ 200
theorem Tp.fr {w w' : World} {F : Nat → Prop} {t : Nat} {A : Option Addr} {n c k : Nat} (h : Tp w t A n c k) (hf : Fr F w w') (hF : ∀ i, ¬ F i) : Tp w' t A n c k :=
  ⟨h.blk.fr hf (hF t), h.row.fr hf (fun i hi => (hF i hi).elim), h.len⟩
theorem Tp.frNo {w w' : World} {t : Nat} {A : Option Addr} {n c k : Nat} (h : Tp w t A n c k) (hf : Fr No w w') : Tp w' t A n c k := h.fr hf fun _ h => h
/-- What is left of a tape behind a call: at most d numbers are read. -/
def TpTo (w : World) (t : Nat) (A : Option Addr) (n c k d : Nat) (w' : World) : Prop := ∃ k', k ≤ k' ∧ k' ≤ k + d ∧ Tp w' t A n c k' ∧ Fr (fun i => i = t) w w'
theorem TpTo.refl {w : World} {t : Nat} {A : Option Addr} {n c k : Nat} (h : Tp w t A n c k) : TpTo w t A n c k 0 w := ⟨k, Nat.le_refl _, Nat.le_refl _, h, Fr.refl _ _⟩
/-- What Next answers. -/
def NextTo (w : World) (t : Nat) (A : Option Addr) (n c k : Nat) (m : Int) (e : Ending) (w' : World) : Prop :=
  ∃ x : Int, e = .returned (.int .i64 x) ∧ 0 ≤ x ∧ x < m ∧ ∃ k', k ≤ k' ∧ k' ≤ k + 1 ∧ (0 < n → k' = k + 1) ∧ Tp w' t A n c k' ∧ Fr (fun i => i = t) w w'
theorem Fr.afterNo {F : Nat → Prop} {a b d : World} (h : Fr F a b) (k : Fr No b d) : Fr F a d := h.trans k fun _ hi => hi.elim
theorem NextTo.frNo {w : World} {t : Nat} {A : Option Addr} {n c k : Nat} {m : Int} {e e' : Ending} {W W' : World} (h : NextTo w t A n c k m e W) (hf : Fr No W W') (he : e' = e) : NextTo w t A n c k m e' W' := by
  subst he
  obtain ⟨x, h0, h1, h2, k', h3, h4, h5, h6, h7⟩ := h
  exact ⟨x, h0, h1, h2, k', h3, h4, h5, h6.frNo hf, h7.afterNo hf⟩
set_option maxRecDepth 100000 in
set_option maxHeartbeats 2000000 in
theorem next_any {w : World} {t : Nat} {A : Option Addr} {n c k : Nat} (h : Tp w t A n c k) (hk : k ≤ 1000000) (m : Int) (hm : 0 < m) (hm2 : m ≤ 4611686018427387904) :
    Calls Tryd.prog 34 #[.pointer (some ⟨t, 0, none⟩), .int .i64 m] w (NextTo w t A n c k m) := by
  have hT := h
  obtain ⟨hb, hr, hn⟩ := h
  have c0 := hb.cell 0
  have c1 := hb.cell 1
  have q1 := hb.frozen 1
  have hlt := hb.lt
  by_cases h0 : n = 0
  · subst h0
    have HT := Lib.hid hT
    have HB := Lib.hid hb
    clear hT hb
    clear hr
    go_enter Tryd.func34, Tryd.ntmps34
    go_wp2_with fail
    go_ret
    exact ⟨0, rfl, Int.le_refl _, hm, k, Nat.le_refl _, by omega, fun h => by omega, HT.out, Fr.refl _ _⟩
  · obtain ⟨b, off, rfl, hbt, hbl, hrow⟩ := hr.resolve_left h0
    have hmod : k % n < n := Nat.mod_lt _ (by omega)
    obtain ⟨x, hx⟩ := hrow (k % n) hmod
    have e0 : ((n : Int) == 0) = false := by simp; omega
    have r1 : Int.tmod (k : Int) (n : Int) = ((k % n : Nat) : Int) := by rw [Int.tmod_eq_emod_of_nonneg (by omega)]; rfl
    have r2 : Int.tdiv (k : Int) (n : Int) = ((k / n : Nat) : Int) := by rw [Int.tdiv_eq_ediv_of_nonneg (by omega)]; rfl
    have hd : k / n ≤ k := Nat.div_le_self _ _
    have hix : (0 : Int) ≤ ((k % n : Nat) : Int) ∧ ((k % n : Nat) : Int) < (n : Int) := by omega
    have hend : ∀ y : Int, 0 ≤ y → y < m → NextTo w t (some ⟨b, off, none⟩) n c k m (.returned (.int .i64 y)) (w.setCell ⟨t, 1, none⟩ (.int .i64 ((k + 1 : Nat) : Int))) := fun y h1 h2 =>
      ⟨y, rfl, h1, h2, k + 1, by omega, by omega, fun _ => rfl, ⟨Blk.cv (hb.set_ 1 _) rfl, hT.row.fr (fr_set w ⟨t, 1, none⟩ _) (fun i hi => hi), hn⟩, fr_set w ⟨t, 1, none⟩ _⟩
    have HT := Lib.hid hT
    have HB := Lib.hid hb
    have HEND := Lib.hid hend
    have HROW := Lib.hid hrow
    clear hT hb hend hrow
    clear hr
    generalize k % n = r at *
    generalize k / n = d at *
    go_enter Tryd.func34, Tryd.ntmps34
    go_wp2_with fail
    go_region
    go_wp2_with fail
    go_region
    go_wp2_with fail
    refine (mod_any _ _ _ (by decide) (by decide)).mono ?_
    rintro e w' ⟨rfl, rfl⟩
    have m1 := Int.emod_nonneg x (b := 1073741824) (by decide)
    have m2 := Int.emod_lt_of_pos x (b := 1073741824) (by decide)
    go_wp2_with fail
    refine (mod_any _ _ _ hm hm2).mono ?_
    rintro e w' ⟨rfl, rfl⟩
    have m3 := Int.emod_nonneg (x % 1073741824 + d * 7) (b := m) (by omega)
    have m4 := Int.emod_lt_of_pos (x % 1073741824 + d * 7) hm
    go_wp2_with fail
    go_ret
    have e9 : ((k : Int) + 1) = ((k + 1 : Nat) : Int) := by omega
    rw [e9]
    exact (HEND.out _ m3 m4).frNo (Fr.refl _ _).drew.drew rfl
/-- What a number of the tape is used for: at most d numbers are read. -/
def IntTo (w : World) (t : Nat) (A : Option Addr) (n c k d : Nat) (lo hi : Int) (e : Ending) (w' : World) : Prop :=
  ∃ x : Int, e = .returned (.int .i64 x) ∧ lo ≤ x ∧ x ≤ hi ∧ TpTo w t A n c k d w'
def BoolTo (w : World) (t : Nat) (A : Option Addr) (n c k d : Nat) (e : Ending) (w' : World) : Prop :=
  ∃ x : Bool, e = .returned (.bool x) ∧ TpTo w t A n c k d w'
theorem next_q {w : World} {t : Nat} {A : Option Addr} {n c k : Nat} (h : Tp w t A n c k) (hk : k ≤ 1000000) (m : Int) (hm : 0 < m) (hm2 : m ≤ 4611686018427387904) :
    Calls Tryd.prog 34 #[.pointer (some ⟨t, 0, none⟩), .int .i64 m] w (IntTo w t A n c k 1 0 (m - 1)) := by
  refine (next_any h hk m hm hm2).mono ?_
  rintro e w' ⟨x, rfl, h1, h2, k', h3, h4, -, h5, h6⟩
  exact ⟨x, rfl, h1, by omega, k', h3, h4, h5, h6⟩
set_option maxHeartbeats 2000000 in
theorem range_any {w : World} {t : Nat} {A : Option Addr} {n c k : Nat} (h : Tp w t A n c k) (hk : k ≤ 1000000) (lo hi : Int) (h1 : lo ≤ hi) (h2 : -4294967296 ≤ lo) (h3 : hi ≤ 4294967296) :
    Calls Tryd.prog 35 #[.pointer (some ⟨t, 0, none⟩), .int .i64 lo, .int .i64 hi] w (IntTo w t A n c k 1 lo hi) := by
  have hlt := h.blk.lt
  have H := Lib.hid h
  clear h
  go_enter Tryd.func35, Tryd.ntmps35
  go_wp2_with fail
  refine (next_q H.out hk _ (by omega) (by omega)).mono ?_
  rintro e w' ⟨x, rfl, b1, b2, hT⟩
  have HT := Lib.hid hT
  clear hT
  go_wp2_with fail
  go_ret
  exact ⟨_, rfl, by omega, by omega, HT.out⟩
theorem yes_any {w : World} {t : Nat} {A : Option Addr} {n c k : Nat} (h : Tp w t A n c k) (hk : k ≤ 1000000) (m : Int) (hm : 0 < m) (hm2 : m ≤ 4611686018427387904) :
    Calls Tryd.prog 36 #[.pointer (some ⟨t, 0, none⟩), .int .i64 m] w (BoolTo w t A n c k 1) := by
  have hlt := h.blk.lt
  have H := Lib.hid h
  clear h
  go_enter Tryd.func36, Tryd.ntmps36
  go_wp2_with fail
  refine (next_q H.out hk _ hm hm2).mono ?_
  rintro e w' ⟨x, rfl, b1, b2, hT⟩
  have HT := Lib.hid hT
  clear hT
  go_wp2_with fail
  go_ret
  exact ⟨_, rfl, HT.out⟩
theorem more_any {w : World} {t : Nat} {A : Option Addr} {n c k : Nat} (h : Tp w t A n c k) :
    Calls Tryd.prog 59 #[.pointer (some ⟨t, 0, none⟩)] w fun e w' => e = .returned (.bool (decide (k < n))) ∧ Fr No w w' := by
  have c0 := h.blk.cell 0
  have c1 := h.blk.cell 1
  have hlt := h.blk.lt
  have H := Lib.hid h
  clear h
  go_enter Tryd.func59, Tryd.ntmps59
  go_wp2_with fail
  go_region
  go_wp2_with fail
  go_ret
  exact ⟨by simp, (Fr.refl _ _).drew⟩
end Go.Proofs.YtanhbebikcoliaaDoor
/- Rows whose elements have several cells: a slice that owns them, appends onto it. -/
namespace Go.Proofs.YtanhbebikcoliaaDoor
open Go.ChangeShapes Go.WideShapes Go.ChangeAt Go.RowKit
set_option linter.unusedVariables false

/-- A slice value that owns rows of 'size' cells each, at the head of a block of F (or nil). -/
def OwnN (w : World) (F : Nat → Prop) (e : TypeId) (size : Nat) (v : Value) (n : Nat) (xs : List Value) : Prop :=
  w.ownsRow 0 e size v n xs ∧ ∀ g, v.ownBlock = some g → F g
/-- What an append leaves. -/
def AppendedN (w : World) (base : Nat) (e : TypeId) (size : Nat) (v : Value) (n : Nat) (xs news : List Value) (m : Nat) (v' : Value) (w' : World) : Prop :=
  w'.ownsRow base e size v' (n + m) (xs ++ news) ∧ w.grownBy w' v.ownBlock ∧ (v'.ownBlock = v.ownBlock ∨ v'.ownBlock = some w.heap.size)

section
variable {P : Program} (w : World)
theorem run_append_rdN (base : Nat) (t ty e : TypeId) (i : TypeInfo) (z : Value) (size bytes : Nat) (ht : P.underlying t = some (.slice e)) (hi : P.info? e = some i) (hz : i.zero = some z)
    (hsize : i.size = size) (hby : i.bytes = bytes) (hzs : z.cells.size = size) (hsz : 0 < size)
    (v : Value) (n : Nat) (xs : List Value) (hown : w.ownsRow base e size v n xs)
    (B : Nat) (A : Option Addr) (m c : Nat) (news : List Value) (hA : A = none → m = 0) (hr : Rd w B A news) (hn : news.length = m * size) (h1 : ∀ u ∈ news, u.oneCell' = true)
    (h63 : n + m ≤ maxLen) (hbytes : ((n + m) + (n + m) / 4 + 192) * bytes ≤ 281474976710656) (hbase : base ≤ w.heap.size) :
    ∃ v' w', (Builtin.append_ #[t, t] ty #[v, .slice A m c]).run P w = .ok v' w' ∧ AppendedN w base e size v n xs news m v' w' := by
  rcases A with _ | ad
  · obtain rfl := hA rfl
    obtain rfl : news = [] := List.eq_nil_of_length_eq_zero (by rw [hn, Nat.zero_mul])
    exact ⟨v, w, run_append_nil_src w base t ty e i size ht hi v n xs hown c, by simpa using hown, World.grownBy.refl w _, .inl rfl⟩
  · have hcells : ∀ j u, news[j]? = some u → w.cell? (ad.add j) = some u := by
      intro j u hu
      obtain ⟨hj, hu⟩ := List.getElem?_eq_some_iff.1 hu
      obtain ⟨b, off, he, _, hc⟩ := hr.at_ (by omega)
      injection he with he
      subst he
      have := hc j hj
      have ea : (⟨b, off, none⟩ : Addr).add j = ⟨b, off + j, none⟩ := by unfold Addr.add; split <;> simp_all
      rw [ea, this, hu]
    obtain ⟨v', w', hrun, h2, h3, h5⟩ := run_append_at (P := P) w base t ty e i z size bytes ht hi hz hsize hby hzs hsz v n xs hown ad m c news hn hcells h1 h63 hbytes hbase
    exact ⟨v', w', hrun, h2, h3, h5⟩

theorem wp_append_rdN {o : Oper} {a : Act} {K : Act → World → Prop} {Q : Exit → Act → World → Prop} (s x : Operand) (t : TypeId)
    (ho : o.op = .call { callee := .builtin .append, args := #[s, x], argTypes := #[t, t] })
    (base : Nat) (e : TypeId) (i : TypeInfo) (z : Value) (size bytes : Nat) (ht : P.underlying t = some (.slice e)) (hi : P.info? e = some i) (hz : i.zero = some z)
    (hsize : i.size = size) (hby : i.bytes = bytes) (hzs : z.cells.size = size) (hsz : 0 < size)
    (v : Value) (n : Nat) (xs : List Value) (hs : a.eval s = v) (hown : w.ownsRow base e size v n xs)
    (B : Nat) (A : Option Addr) (m c : Nat) (news : List Value) (hx : a.eval x = .slice A m c) (hA : A = none → m = 0) (hr : Rd w B A news) (hn : news.length = m * size) (h1 : ∀ u ∈ news, u.oneCell' = true)
    (h63 : n + m ≤ maxLen) (hbytes : ((n + m) + (n + m) / 4 + 192) * bytes ≤ 281474976710656) (hbase : base ≤ w.heap.size)
    (h : ∀ v' w', AppendedN w base e size v n xs news m v' w' → K (a.put o.dst v') w') : o.wp P a w K Q := by
  obtain ⟨v', w', hrun, h2⟩ := run_append_rdN (P := P) w base t o.type e i z size bytes ht hi hz hsize hby hzs hsz v n xs hown B A m c news hA hr hn h1 h63 hbytes hbase
  unfold Oper.wp execOp
  simp only [ho, resolve, invoke, builtin, Sem.run_bind, Sem.run_pure, Result.andThen_ok, List.map_toArray, List.map_cons, List.map_nil, hs, hx, hrun]
  exact h v' w' h2

theorem wpList_append_rdN {ops : Array Oper} {rest : List Oper} {o : Oper} {a : Act} {Q : Exit → Act → World → Prop} (hgd : Region.wanted o (yielded ops a.tmps) = true) (s x : Operand) (t : TypeId)
    (ho : o.op = .call { callee := .builtin .append, args := #[s, x], argTypes := #[t, t] })
    (base : Nat) (e : TypeId) (i : TypeInfo) (z : Value) (size bytes : Nat) (ht : P.underlying t = some (.slice e)) (hi : P.info? e = some i) (hz : i.zero = some z)
    (hsize : i.size = size) (hby : i.bytes = bytes) (hzs : z.cells.size = size) (hsz : 0 < size)
    (v : Value) (n : Nat) (xs : List Value) (hs : a.eval s = v) (hown : w.ownsRow base e size v n xs)
    (B : Nat) (A : Option Addr) (m c : Nat) (news : List Value) (hx : a.eval x = .slice A m c) (hA : A = none → m = 0) (hr : Rd w B A news) (hn : news.length = m * size) (h1 : ∀ u ∈ news, u.oneCell' = true)
    (h63 : n + m ≤ maxLen) (hbytes : ((n + m) + (n + m) / 4 + 192) * bytes ≤ 281474976710656) (hbase : base ≤ w.heap.size)
    (h : ∀ v' w', AppendedN w base e size v n xs news m v' w' → wpList P ops Q rest (a.put o.dst v') w') : wpList P ops Q (o :: rest) a w :=
  wpList_step fun _ hK => by
    rw [if_pos hgd]
    exact wp_append_rdN w s x t ho base e i z size bytes ht hi hz hsize hby hzs hsz v n xs hs hown B A m c news hx hA hr hn h1 h63 hbytes hbase fun v' w' h2 => hK _ _ (h v' w' h2)
theorem step_append_rdN {ops : Array Oper} {o : Oper} {a : Act} {K : Act → World → Prop} {Q : Exit → Act → World → Prop} {E : Prop} (hgd : o.guard = none) (s x : Operand) (t : TypeId)
    (ho : o.op = .call { callee := .builtin .append, args := #[s, x], argTypes := #[t, t] })
    (base : Nat) (e : TypeId) (i : TypeInfo) (z : Value) (size bytes : Nat) (ht : P.underlying t = some (.slice e)) (hi : P.info? e = some i) (hz : i.zero = some z)
    (hsize : i.size = size) (hby : i.bytes = bytes) (hzs : z.cells.size = size) (hsz : 0 < size)
    (v : Value) (n : Nat) (xs : List Value) (hs : a.eval s = v) (hown : w.ownsRow base e size v n xs)
    (B : Nat) (A : Option Addr) (m c : Nat) (news : List Value) (hx : a.eval x = .slice A m c) (hA : A = none → m = 0) (hr : Rd w B A news) (hn : news.length = m * size) (h1 : ∀ u ∈ news, u.oneCell' = true)
    (h63 : n + m ≤ maxLen) (hbytes : ((n + m) + (n + m) / 4 + 192) * bytes ≤ 281474976710656) (hbase : base ≤ w.heap.size)
    (h : ∀ v' w', AppendedN w base e size v n xs news m v' w' → K (a.put o.dst v') w') :
    if Region.wanted o (yielded ops a.tmps) = true then Oper.wp P o a w K Q else E := by
  have hw : Region.wanted o (yielded ops a.tmps) = true := by simp [Region.wanted, hgd]
  rw [if_pos hw]
  exact wp_append_rdN w s x t ho base e i z size bytes ht hi hz hsize hby hzs hsz v n xs hs hown B A m c news hx hA hr hn h1 h63 hbytes hbase h
end


section
variable {w w' : World} {F G : Nat → Prop} {e : TypeId} {size n : Nat} {v : Value} {xs : List Value}
theorem OwnN.lt (h : OwnN w F e size v n xs) : ∀ g, v.ownBlock = some g → g < w.heap.size := fun g hg => (h.1.lt g hg).2
theorem OwnN.fr' (h : OwnN w F e size v n xs) (hf : Fr G w w') (hd : ∀ g, v.ownBlock = some g → ¬ G g) : OwnN w' F e size v n xs := by
  refine ⟨⟨h.1.1, ?_⟩, h.2⟩
  rcases h.1.2 with hn | ⟨g, cap, cur, rfl, hb, hgg, rest⟩
  · exact .inl hn
  · refine .inr ⟨g, cap, cur, rfl, hb, ?_, rest⟩
    rw [hf.block g (Array.getElem?_eq_some_iff.1 hgg).1 (hd g rfl)]
    exact hgg
theorem OwnN.frNo (h : OwnN w F e size v n xs) (hf : Fr No w w') : OwnN w' F e size v n xs := h.fr' hf fun _ _ hi => hi
theorem OwnN.mono (h : OwnN w F e size v n xs) (hFG : ∀ i, F i → G i) : OwnN w G e size v n xs := ⟨h.1, fun g hg => hFG g (h.2 g hg)⟩
theorem OwnN.form (h : OwnN w F e size v n xs) : ∃ A cap, v = .slice A n cap ∧ (A = none → n = 0) := ownsRow_slice_form h.1
theorem OwnN.nil (w : World) (F : Nat → Prop) (e : TypeId) (size : Nat) : OwnN w F e size (.slice none 0 0) 0 [] := ⟨World.ownsRow_nil _ _ _ _, fun g hg => by cases hg⟩
theorem OwnN.cap {A : Option Addr} {c : Nat} (h : OwnN w F e size (.slice A n c) n xs) : n ≤ c ∧ c ≤ maxLen := by
  rcases h.1.2 with ⟨hv, h0⟩ | ⟨g, cap, cur, hv, hb, hgg, hnc, hcm, hcs, htk⟩
  · injection hv with e1 e2 e3
    omega
  · injection hv with e1 e2 e3
    subst e3
    exact ⟨hnc, hcm⟩
theorem OwnN.cut {A : Option Addr} {c k : Nat} (h : OwnN w F e size (.slice A n c) n xs) (hk : k ≤ n) : OwnN w F e size (.slice A k c) k (xs.take (k * size)) := by
  have hle : k * size ≤ n * size := Nat.mul_le_mul_right _ hk
  refine ⟨⟨by rw [List.length_take, h.1.1]; omega, ?_⟩, fun g hg => h.2 g (by rcases A with _ | a <;> exact hg)⟩
  rcases h.1.2 with ⟨hv, h0⟩ | ⟨g, cap, cur, hv, hb, hgg, hnc, hcm, hcs, htk⟩
  · injection hv with e1 e2 e3
    subst e1 e3
    obtain rfl : k = 0 := by omega
    exact .inl ⟨rfl, rfl⟩
  · injection hv with e1 e2 e3
    subst e1 e3
    refine .inr ⟨g, c, cur, rfl, hb, hgg, by omega, hcm, hcs, ?_⟩
    rw [← htk, List.take_take]
    congr 1
    omega
theorem OwnN.ne_blk {g : Nat} {t : TypeId} {cs : Array Value} (h : OwnN w F e size v n xs) (hb : Blk w g t cs) (hne : e ≠ t) : ∀ k, v.ownBlock = some k → k ≠ g := by
  intro k hk
  rcases h.1.2 with ⟨rfl, _⟩ | ⟨g', cap, cur, rfl, _, hh, _⟩
  · cases hk
  · rintro rfl
    obtain rfl : g' = k := by simpa [Value.ownBlock] using hk
    unfold Blk at hb
    rw [hh] at hb
    injection hb with hb
    injection hb with _ ht
    exact hne ht
/-- The cells of the rows. -/
theorem OwnN.head {A : Option Addr} {c : Nat} (h : OwnN w F e size (.slice A n c) n xs) (hp : 0 < n) :
    ∃ b, A = some ⟨b, 0, none⟩ ∧ b < w.heap.size ∧ F b ∧ ∀ k, k < xs.length → w.cell? ⟨b, k, none⟩ = xs[k]? := by
  rcases h.1.2 with ⟨hv, h0⟩ | ⟨g, cap, cur, hv, hb, hgg, hnc, hcm, hcs, htk⟩
  · omega
  · injection hv with e1 e2 e3
    subst e1 e3
    refine ⟨g, rfl, (Array.getElem?_eq_some_iff.1 hgg).1, h.2 g rfl, fun k hk => ?_⟩
    rw [cell_of_row w g k cur e (0, 0) hgg, ← htk]
    have : k < n * size := by rw [← h.1.1]; exact hk
    rw [List.getElem?_take, if_pos this, Array.getElem?_toList]
theorem OwnN.rd {A : Option Addr} {c : Nat} (h : OwnN w F e size (.slice A n c) n xs) : Rd w w.heap.size A xs := by
  by_cases h0 : xs = []
  · exact .inl h0
  · have hx : 0 < xs.length := by
      rcases xs with _ | ⟨x, xs⟩
      · exact absurd rfl h0
      · simp
    have hn : 0 < n := by
      rcases Nat.eq_zero_or_pos n with rfl | hn
      · rw [h.1.1, Nat.zero_mul] at hx; omega
      · exact hn
    obtain ⟨b, rfl, hb, _, hc⟩ := h.head hn
    exact .inr ⟨b, 0, rfl, hb, fun j hj => by rw [Nat.zero_add, hc j hj, List.getElem?_eq_getElem hj]⟩
theorem OwnN.appended (h : OwnN w F e size v n xs) {news : List Value} {m : Nat} {v' : Value} (ha : AppendedN w 0 e size v n xs news m v' w') :
    OwnN w' (fun i => F i ∨ (i = w.heap.size ∧ i < w'.heap.size)) e size v' (n + m) (xs ++ news) ∧ Fr F w w' := by
  refine ⟨⟨ha.1, fun g hg => ?_⟩, (Fr.refl F w).grown ha.2.1 fun k hk => .inl (h.2 k hk)⟩
  rcases ha.2.2 with e1 | e1
  · exact .inl (h.2 g (e1.symm.trans hg))
  · have hlt := (ha.1.lt g hg).2
    rw [e1] at hg
    injection hg with hg
    exact .inr ⟨hg.symm, hlt⟩
end
end Go.Proofs.YtanhbebikcoliaaDoor
/- The contract of the reference's SameBytes. -/
namespace Go.Proofs.YtanhbebikcoliaaDoor
open Go.ChangeShapes Go.WideShapes Go.ChangeAt Go.RowKit

theorem same_bytes (A A2 : Option Addr) (n c m c2 : Nat) (l l2 : List UInt8) (B B2 : Nat) (w : World) (hA : A = none → n = 0) (hl : l.length = n) (hr : Rd w B A (l.map bv)) (hA2 : A2 = none → m = 0) (hl2 : l2.length = m) (hr2 : Rd w B2 A2 (l2.map bv)) :
    Calls Tryd.prog 20 #[.slice A n c, .slice A2 m c2] w fun e w' => e = .returned (.bool (l == l2)) ∧ w = w' := by
  have hcv1 := run_string_rd (P := Tryd.prog) w 40 9 5 Tryd.underlying40 Tryd.underlying5 Tryd.underlying9 (c := c) hA hl hr
  have hcv2 := run_string_rd (P := Tryd.prog) w 40 9 5 Tryd.underlying40 Tryd.underlying5 Tryd.underlying9 (c := c2) hA2 hl2 hr2
  clear hA hl hr hA2 hl2 hr2
  go_enter Tryd.func20, Tryd.ntmps20
  go_wp2
  go_ret
  refine ⟨ret_bool ?_, rfl⟩
  simp
end Go.Proofs.YtanhbebikcoliaaDoor
