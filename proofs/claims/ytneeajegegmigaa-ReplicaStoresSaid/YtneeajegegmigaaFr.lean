/-
  Frames with footprints: which blocks a call may have turned; rows that a structure owns.
-/
import Derived.Test.YtneeajegegmigaaApp
import Derived.Laws.Rows
namespace Go.Proofs.Ytneeajegegmigaa
open Go.ChangeShapes Go.WideShapes Go.ChangeAt Go.RowKit

/-- Of the blocks that were there, only those of F may have turned. -/
structure Fr (F : Nat → Prop) (w w' : World) : Prop where
  os : w'.os = w.os
  tape : w'.tape = w.tape
  output : w'.output = w.output
  size : w.heap.size ≤ w'.heap.size
  block : ∀ i, i < w.heap.size → ¬ F i → w'.heap[i]? = w.heap[i]?

/-- No block. -/
abbrev No : Nat → Prop := fun _ => False

section
variable {F G : Nat → Prop} {a w w' w'' : World}
theorem Fr.refl (F : Nat → Prop) (w : World) : Fr F w w := ⟨rfl, rfl, rfl, Nat.le_refl _, fun _ _ _ => rfl⟩
theorem Fr.trans (h : Fr F w w') (k : Fr G w' w'') (hG : ∀ i, G i → F i ∨ w.heap.size ≤ i) : Fr F w w'' :=
  ⟨k.os.trans h.os, k.tape.trans h.tape, k.output.trans h.output, Nat.le_trans h.size k.size, fun i hi hn =>
    (k.block i (Nat.lt_of_lt_of_le hi h.size) (fun hg => by
      rcases hG i hg with h1 | h1
      · exact hn h1
      · omega)).trans (h.block i hi hn)⟩
theorem Fr.mono (h : Fr F w w') (hFG : ∀ i, F i → G i) : Fr G w w' := ⟨h.os, h.tape, h.output, h.size, fun i hi hn => h.block i hi fun hf => hn (hFG i hf)⟩
theorem Fr.drew (h : Fr F a w) : Fr F a w.drew := ⟨h.os, h.tape, h.output, h.size, h.block⟩
theorem Fr.drewN (h : Fr F a w) (n : Nat) : Fr F a (w.drewN n) := ⟨h.os, h.tape, h.output, h.size, h.block⟩
theorem Fr.alloc (h : Fr F a w) (o : Obj) : Fr F a (w.alloc o) :=
  ⟨h.os, h.tape, h.output, Nat.le_trans h.size (by simp), fun i hi hn => (Below.heap_alloc w o i (Nat.lt_of_lt_of_le hi h.size)).trans (h.block i hi hn)⟩
theorem Fr.setCell (h : Fr F a w) {p : Addr} (hp : F p.block ∨ a.heap.size ≤ p.block) (u : Value) : Fr F a (w.setCell p u) :=
  ⟨h.os, h.tape, h.output, by simpa [World.setCell] using h.size, fun i hi hn => (Below.heap_setCell w p u i (by
    rintro rfl
    rcases hp with hp | hp
    · exact hn hp
    · omega)).trans (h.block i hi hn)⟩
theorem Fr.grown (h : Fr F a w) {row : Option Nat} (hg : w.grownBy w' row) (hr : ∀ k, row = some k → F k ∨ a.heap.size ≤ k) : Fr F a w' :=
  ⟨hg.os.trans h.os, hg.tape.trans h.tape, hg.output.trans h.output, Nat.le_trans h.size hg.size, fun i hi hn =>
    (hg.block i (Nat.lt_of_lt_of_le hi h.size) (fun e => by
      rcases hr i e.symm with h1 | h1
      · exact hn h1
      · omega)).trans (h.block i hi hn)⟩
theorem Fr.cell (h : Fr F w w') {p : Addr} (hp : p.block < w.heap.size) (hn : ¬ F p.block) : w'.cell? p = w.cell? p := World.cell?_of_block (w := w) (h.block p.block hp hn)
theorem Fr.frozen (h : Fr F w w') {p : Addr} (hp : p.block < w.heap.size) (hn : ¬ F p.block) : w'.frozen? p = w.frozen? p := World.frozen?_of_block (w := w) (h.block p.block hp hn)
theorem Fr.below (h : Fr F w w') {B : Nat} (hB : B ≤ w.heap.size) (hF : ∀ i, F i → B ≤ i) : Below B w w' :=
  ⟨h.os, h.tape, h.output, h.size, fun i hi => h.block i (by omega) fun hf => by have := hF i hf; omega⟩
theorem Fr.of_below (h : Below w.heap.size w w') : Fr No w w' := ⟨h.os, h.tape, h.output, h.size, fun i hi _ => h.block i hi⟩
theorem Fr.rd (h : Fr F w w') {B : Nat} {A : Option Addr} {xs : List Value} (hr : Rd w B A xs) (hB : B ≤ w.heap.size) (hF : ∀ i, F i → B ≤ i) : Rd w' B A xs :=
  hr.below (h.below hB hF)
end

/-- A slice value that owns its cells: a row at the head of a block of F (or nil). -/
def Own (w : World) (F : Nat → Prop) (e : TypeId) (v : Value) (xs : List Value) : Prop :=
  w.ownsRow 0 e 1 v xs.length xs ∧ ∀ g, v.ownBlock = some g → F g

section
variable {w w' : World} {F G : Nat → Prop} {e : TypeId} {v : Value} {xs : List Value}
theorem Own.lt (h : Own w F e v xs) : ∀ g, v.ownBlock = some g → g < w.heap.size := fun g hg => (h.1.lt g hg).2
theorem Own.fr' (h : Own w F e v xs) (hf : Fr G w w') (hd : ∀ g, v.ownBlock = some g → ¬ G g) : Own w' F e v xs := by
  refine ⟨⟨h.1.1, ?_⟩, h.2⟩
  rcases h.1.2 with hn | ⟨g, cap, cur, rfl, hb, hgg, rest⟩
  · exact .inl hn
  · refine .inr ⟨g, cap, cur, rfl, hb, ?_, rest⟩
    rw [hf.block g (Array.getElem?_eq_some_iff.1 hgg).1 (hd g rfl)]
    exact hgg
theorem Own.fr (h : Own w F e v xs) (hf : Fr G w w') (hd : ∀ i, F i → ¬ G i) : Own w' F e v xs := h.fr' hf fun g hg => hd g (h.2 g hg)
theorem Own.own (h : Own w F e v xs) {n : Nat} (hn : xs.length = n) : w.ownsRow 0 e 1 v n xs := hn ▸ h.1
theorem Own.mono (h : Own w F e v xs) (hFG : ∀ i, F i → G i) : Own w G e v xs := ⟨h.1, fun g hg => hFG g (h.2 g hg)⟩
theorem Own.form (h : Own w F e v xs) : ∃ A cap, v = .slice A xs.length cap ∧ (A = none → xs.length = 0) := ownsRow_slice_form h.1
theorem Own.nil (w : World) (F : Nat → Prop) (e : TypeId) : Own w F e (.slice none 0 0) [] := ⟨World.ownsRow_nil _ _ _ _, fun g hg => by cases hg⟩
theorem Own.rd {A : Option Addr} {n c : Nat} (h : Own w F e (.slice A n c) xs) : Rd w w.heap.size A xs := by
  have h1 := h.1
  obtain ⟨A', cap', hv, _⟩ := ownsRow_slice_form h1
  injection hv with e1 e2 e3
  subst e1 e2 e3
  exact Rd.of_own h1
theorem Own.len {A : Option Addr} {n c : Nat} (h : Own w F e (.slice A n c) xs) : n = xs.length ∧ (A = none → n = 0) := by
  obtain ⟨A', cap', hv, hn⟩ := h.form
  injection hv with e1 e2 e3
  subst e1 e2 e3
  exact ⟨rfl, hn⟩
theorem Own.appended (h : Own w F e v xs) {news : List Value} {n m : Nat} (hn : xs.length = n) (hm : news.length = m) {v' : Value} (ha : Appended w 0 e v n xs news m v' w') :
    Own w' (fun i => F i ∨ (i = w.heap.size ∧ i < w'.heap.size)) e v' (xs ++ news) ∧ Fr F w w' := by
  subst hm hn
  refine ⟨⟨by rw [List.length_append]; exact ha.1, fun g hg => ?_⟩, (Fr.refl F w).grown ha.2.1 fun k hk => .inl (h.2 k hk)⟩
  rcases ha.2.2 with e1 | e1
  · exact .inl (h.2 g (e1.symm.trans hg))
  · have hlt := (ha.1.lt g hg).2
    rw [e1] at hg
    injection hg with hg
    exact .inr ⟨hg.symm, hlt⟩
theorem Own.cap {A : Option Addr} {n c : Nat} (h : Own w F e (.slice A n c) xs) : n ≤ c ∧ c ≤ maxLen := by
  obtain ⟨rfl, hn⟩ := h.len
  rcases h.1.2 with ⟨hv, h0⟩ | ⟨g, cap, cur, hv, hb, hgg, hnc, hcm, hcs, htk⟩
  · injection hv with e1 e2 e3
    omega
  · injection hv with e1 e2 e3
    subst e3
    exact ⟨hnc, hcm⟩
/-- A row cut at k. -/
theorem Own.cut {A : Option Addr} {n c k : Nat} (h : Own w F e (.slice A n c) xs) (hk : k ≤ n) : Own w F e (.slice A k c) (xs.take k) := by
  obtain ⟨rfl, hn⟩ := h.len
  have hlen : (xs.take k).length = k := by rw [List.length_take]; omega
  refine ⟨⟨by rw [hlen]; omega, ?_⟩, fun g hg => h.2 g (by rcases A with _ | a <;> exact hg)⟩
  rw [hlen]
  rcases h.1.2 with ⟨hv, h0⟩ | ⟨g, cap, cur, hv, hb, hgg, hnc, hcm, hcs, htk⟩
  · injection hv with e1 e2 e3
    subst e1 e3
    obtain rfl : k = 0 := by omega
    exact .inl ⟨rfl, rfl⟩
  · injection hv with e1 e2 e3
    subst e1 e3
    refine .inr ⟨g, c, cur, rfl, hb, hgg, by omega, hcm, hcs, ?_⟩
    rw [Nat.mul_one] at htk ⊢
    rw [← htk, List.take_take]
    congr 1
    omega
end

/-- A block that is known whole, none of it frozen. -/
def Blk (w : World) (g : Nat) (t : TypeId) (cs : Array Value) : Prop := w.heap[g]? = some (.cells cs t (0, 0))
section
variable {w w' : World} {F : Nat → Prop} {g : Nat} {t : TypeId} {cs : Array Value}
theorem Blk.lt (h : Blk w g t cs) : g < w.heap.size := (Array.getElem?_eq_some_iff.1 h).1
theorem Blk.cell (h : Blk w g t cs) (i : Nat) : w.cell? ⟨g, i, none⟩ = cs[i]? := cell_of_row w g i cs t (0, 0) h
theorem Blk.frozen (h : Blk w g t cs) (i : Nat) : w.frozen? ⟨g, i, none⟩ = false := by
  unfold Blk at h
  simp [World.frozen?, h]
theorem Blk.new (w : World) (t : TypeId) (cs : Array Value) : Blk (w.alloc (.cells cs t)) w.heap.size t cs := heap_alloc_new w _
theorem Blk.fr (h : Blk w g t cs) (hf : Fr F w w') (hn : ¬ F g) : Blk w' g t cs := (hf.block g h.lt hn).trans h
theorem Blk.set_ (h : Blk w g t cs) (i : Nat) (u : Value) : Blk (w.setCell ⟨g, i, none⟩ u) g t (cs.setIfInBounds i u) := by
  unfold Blk at h ⊢
  simp [World.setCell, Array.getElem?_modify, h]
theorem fr_set (w : World) (p : Addr) (u : Value) : Fr (fun i => i = p.block) w (w.setCell p u) := (Fr.refl (fun i => i = p.block) w).setCell (p := p) (.inl rfl) u
theorem Own.ne_blk {e : TypeId} {v : Value} {xs : List Value} (h : Own w F e v xs) (hb : Blk w g t cs) (hne : e ≠ t) : ∀ k, v.ownBlock = some k → k ≠ g := by
  intro k hk
  rcases h.1.2 with ⟨rfl, _⟩ | ⟨g', cap, cur, rfl, _, hh, _⟩
  · cases hk
  · rintro rfl
    obtain rfl : g' = k := by simpa [Value.ownBlock] using hk
    unfold Blk at hb
    rw [hh] at hb
    injection hb with hb
    injection hb with _ ht
    exact hne ht
end
/-- A new block of one-cell elements reads as its cells. -/
theorem Rd.new (w : World) (cs : List Value) (t : TypeId) {xs : List Value} (h : cs = xs) : Rd (w.alloc (.cells cs.toArray t)) (w.heap.size + 1) (some ⟨w.heap.size, 0, none⟩) xs := by
  subst h
  refine .inr ⟨_, 0, rfl, by omega, fun j hj => ?_⟩
  rw [(Blk.new w t cs.toArray).cell, Nat.zero_add]
  simp [List.getElem?_eq_getElem hj]
theorem Rd.fr {w w' : World} {F : Nat → Prop} {B : Nat} {A : Option Addr} {xs : List Value} (hr : Rd w B A xs) (h : Fr F w w') (hB : B ≤ w.heap.size) (hF : ∀ i, F i → B ≤ i) : Rd w' B A xs := h.rd hr hB hF
theorem Rd.frNo {w w' : World} {B : Nat} {A : Option Addr} {xs : List Value} (hr : Rd w B A xs) (h : Fr No w w') (hB : B ≤ w.heap.size) : Rd w' B A xs := h.rd hr hB fun _ hi => hi.elim
theorem Own.frNo {w w' : World} {F : Nat → Prop} {e : TypeId} {v : Value} {xs : List Value} (h : Own w F e v xs) (hf : Fr No w w') : Own w' F e v xs := h.fr hf fun _ _ hi => hi
theorem fr_alloc (w : World) (o : Obj) : Fr No w (w.alloc o) := (Fr.refl _ _).alloc o
theorem Fr.transNo {w w' w'' : World} (h : Fr No w w') (k : Fr No w' w'') : Fr No w w'' := h.trans k fun _ hi => hi.elim
/-- A structure of the call's own has turned. -/
theorem Fr.transNew {w w' w'' : World} {F : Nat → Prop} (h : Fr No w w') (k : Fr F w' w'') (hF : ∀ i, F i → w.heap.size ≤ i) : Fr No w w'' := h.trans k fun i hi => .inr (hF i hi)
theorem Fr.belowNo {w w' : World} (h : Fr No w w') : Below w.heap.size w w' := h.below (Nat.le_refl _) fun _ hi => hi.elim

/-- A footprint that does not hold the row of a slice. -/
def Apart (F : Nat → Prop) (v : Value) : Prop := ∀ g, v.ownBlock = some g → ¬ F g
theorem Apart.next {w : World} {F F' G : Nat → Prop} {e : TypeId} {v : Value} {xs : List Value} (h : Apart F v) (ho : Own w G e v xs) (hs : ∀ i, F' i → F i ∨ w.heap.size ≤ i) : Apart F' v := by
  intro g hg hf
  have := ho.lt g hg
  rcases hs g hf with h1 | h1
  · exact h g hg h1
  · omega
theorem Apart.new {F : Nat → Prop} {w' : World} {B : Nat} {e : TypeId} {v : Value} {xs : List Value} (ho : Own w' (fun i => B ≤ i) e v xs) (hF : ∀ i, F i → i < B) : Apart F v := by
  intro g hg hf
  have h1 := ho.2 g hg
  have h2 := hF g hf
  simp only at h1
  omega

/-- '[]T{}'. -/
theorem Own.made (w : World) (e : TypeId) : Own (w.alloc (.cells #[] e)) (fun i => w.heap.size ≤ i) e (.slice (some ⟨w.heap.size, 0, none⟩) 0 0) [] :=
  ⟨World.ownsRow_made w #[] 0 (Nat.zero_le _) (Nat.zero_le _) rfl, fun g hg => by simp [Value.ownBlock] at hg; omega⟩
/-- An append onto a row of the call's own, made since block B. -/
theorem Own.appendedNew {w w' : World} {B : Nat} {e : TypeId} {v : Value} {xs : List Value} (h : Own w (fun i => B ≤ i) e v xs) (hB : B ≤ w.heap.size) {news : List Value} {n m : Nat} (hn : xs.length = n) (hm : news.length = m) {v' : Value} (ha : Appended w 0 e v n xs news m v' w') :
    Own w' (fun i => B ≤ i) e v' (xs ++ news) ∧ Fr (fun i => B ≤ i) w w' := by
  obtain ⟨h1, h2⟩ := h.appended hn hm ha
  exact ⟨h1.mono fun i hi => by rcases hi with hi | hi <;> omega, h2⟩

/-- An append onto a row that lies in F or was made since block B. -/
theorem Own.appendedF {w w' : World} {F : Nat → Prop} {B : Nat} {e : TypeId} {v : Value} {xs : List Value} (h : Own w (fun i => F i ∨ B ≤ i) e v xs) (hB : B ≤ w.heap.size) {news : List Value} {n m : Nat} (hn : xs.length = n) (hm : news.length = m) {v' : Value} (ha : Appended w 0 e v n xs news m v' w') :
    Own w' (fun i => F i ∨ B ≤ i) e v' (xs ++ news) ∧ Fr (fun i => F i ∨ B ≤ i) w w' := by
  obtain ⟨h1, h2⟩ := h.appended hn hm ha
  refine ⟨h1.mono fun i hi => ?_, h2⟩
  rcases hi with hi | hi
  · exact hi
  · exact .inr (by omega)
theorem Fr.transF {w w1 w2 : World} {F : Nat → Prop} (h : Fr F w w1) (k : Fr (fun i => F i ∨ w.heap.size ≤ i) w1 w2) : Fr F w w2 := h.trans k fun _ hi => hi

/-- What 'append([]T{}, src...)' leaves, draws between let by. -/
theorem Own.copied {w W w1 : World} {e : TypeId} {news : List Value} {m : Nat} {v' : Value} (happ : Appended W 0 e (.slice (some ⟨w.heap.size, 0, none⟩) 0 0) 0 [] news m v' w1) (hW : W.heap = (w.alloc (.cells #[] e)).heap) (hm : news.length = m) :
    Own w1 (fun i => w.heap.size ≤ i) e v' news ∧ Fr (fun i => w.heap.size ≤ i) W w1 := by
  have ho : Own W (fun i => w.heap.size ≤ i) e (.slice (some ⟨w.heap.size, 0, none⟩) 0 0) [] := by
    have := Own.made w e
    unfold Own World.ownsRow at this ⊢
    rwa [hW]
  have := ho.appendedNew (by rw [hW]; simp) rfl hm happ
  rwa [List.nil_append] at this

/-- A row's head and its cells. -/
theorem own_head {w : World} {F : Nat → Prop} {e : TypeId} {A : Option Addr} {n c : Nat} {xs : List Value} (h : Own w F e (.slice A n c) xs) (hp : 0 < n) :
    ∃ b, A = some ⟨b, 0, none⟩ ∧ b < w.heap.size ∧ F b ∧ ∀ k, (hk : k < xs.length) → w.cell? ⟨b, k, none⟩ = some xs[k] ∧ w.frozen? ⟨b, k, none⟩ = false := by
  obtain ⟨rfl, _⟩ := h.len
  obtain ⟨g, cap, hv, _, hlt⟩ := h.1.form hp
  injection hv with e1 e2 e3
  subst e1 e3
  refine ⟨g, rfl, hlt, h.2 g rfl, fun k hk => ⟨?_, h.1.frozenAt k⟩⟩
  rw [h.1.cellAt k (by omega), List.getElem?_eq_getElem hk]

/-- A store into a row of the call's own. -/
theorem own_stored {w : World} {F : Nat → Prop} {e : TypeId} {b n c : Nat} {xs : List Value} (h : Own w F e (.slice (some ⟨b, 0, none⟩) n c) xs) (k : Nat) (u : Value) :
    Own (w.setCell ⟨b, k, none⟩ u) F e (.slice (some ⟨b, 0, none⟩) n c) (xs.set k u) ∧ Fr F w (w.setCell ⟨b, k, none⟩ u) := by
  obtain ⟨rfl, _⟩ := h.len
  refine ⟨⟨?_, h.2⟩, (Fr.refl F w).setCell (p := ⟨b, k, none⟩) (.inl (h.2 b rfl)) u⟩
  have := (h.1.stored k u).1
  rwa [List.length_set]

end Go.Proofs.Ytneeajegegmigaa
