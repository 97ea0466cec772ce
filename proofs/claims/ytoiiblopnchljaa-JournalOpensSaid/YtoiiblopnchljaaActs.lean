/-
  Scripts of three numbers each.
-/
import Derived.Test.YtoiiblopnchljaaRowI
namespace Go.Proofs.Ytoiiblopnchljaa
open Go.ChangeShapes Go.WideShapes Go.ChangeAt Go.RowKit
set_option linter.unusedVariables false

/-- An act: which call, two numbers. -/
structure JAct where
  which : Int
  a : Int
  b : Int
def JAct.cells (x : JAct) : List Value := [.int .i64 x.which, .int .i64 x.a, .int .i64 x.b]
structure JAct.ok (x : JAct) : Prop where
  which : -9223372036854775808 ≤ x.which ∧ x.which ≤ 9223372036854775807
  a : -9223372036854775808 ≤ x.a ∧ x.a ≤ 9223372036854775807
  b : -9223372036854775808 ≤ x.b ∧ x.b ≤ 9223372036854775807
def JActOk (cs : List Value) : Prop := ∃ x : JAct, cs = x.cells ∧ x.ok
/-- A script that came in. -/
structure ActsAt (w : World) (A : Option Addr) (len cap : Nat) (acts : List JAct) : Prop where
  count : acts.length = len
  most : len ≤ maxLen
  nil_ : A = none → len = 0
  reads : Rd w w.heap.size A (acts.map JAct.cells).flatten
  each : ∀ a ∈ acts, a.ok
def In_acts (w : World) (v : Value) : Prop := ∃ A len cap acts, v = .slice A len cap ∧ ActsAt w A len cap acts

set_option maxRecDepth 100000 in
theorem in_acts {H : Type} {enc : TypeId × Value → H} {W : World} {b0 : Nat} {v : Value} {d : DataW H} {p : List MemPlace} {X : Prop} (hv : Value.okWide Try.prog W .any b0 37 v)
    (h : DataW.Trod enc Try.prog W 0 (fun _ => true) true 37 v d p) (_ : X) : In_acts W v := by
  obtain ⟨A, len, cap, xs, rfl, he⟩ := open_elems Try.underlying37 3 (by kernel_rfl) hv h JActOk (fun n cs y hl ht => by
    obtain ⟨m, hf⟩ := open_fields Try.underlying43 (by kernel_rfl) hl ht
    obtain ⟨c0, z0, g0, t0⟩ := hf 0 _ rfl
    obtain ⟨c1, z1, g1, t1⟩ := hf 1 _ rfl
    obtain ⟨c2, z2, g2, t2⟩ := hf 2 _ rfl
    obtain ⟨n0, e0, _, r0⟩ := DataW.trod_int Try.underlying3 t0
    obtain ⟨n1, e1, _, r1⟩ := DataW.trod_int Try.underlying3 t1
    obtain ⟨n2, e2, _, r2⟩ := DataW.trod_int Try.underlying3 t2
    simp at e0 e1 e2
    subst e0 e1 e2
    refine ⟨⟨n0, n1, n2⟩, ?_, ⟨bounds_i64 r0, bounds_i64 r1, bounds_i64 r2⟩⟩
    match cs, hl with
    | [x0, x1, x2], _ =>
      simp at g0 g1 g2
      subst g0 g1 g2
      simp [JAct.cells])
  have hch : ∀ xs : List (List Value), (∀ x ∈ xs, JActOk x) → ∃ acts : List JAct, xs = acts.map JAct.cells ∧ ∀ a ∈ acts, a.ok := by
    intro xs
    induction xs with
    | nil => exact fun _ => ⟨[], rfl, fun a ha => by cases ha⟩
    | cons x xs ih =>
      intro hx
      obtain ⟨a, e1, h1⟩ := hx x (by simp)
      obtain ⟨ls, e2, h2⟩ := ih fun y hy => hx y (by simp [hy])
      refine ⟨a :: ls, by rw [e1, e2]; rfl, fun y hy => ?_⟩
      rcases List.mem_cons.1 hy with rfl | hy
      · exact h1
      · exact h2 y hy
  obtain ⟨acts, rfl, hok⟩ := hch xs fun x hx => (he.each x hx).2
  exact ⟨A, len, cap, acts, rfl, by simpa using he.count, Nat.le_trans he.room he.most, he.nil_, he.reads, hok⟩

theorem ActsAt.at_ {w w' : World} {A : Option Addr} {len cap : Nat} {acts : List JAct} (h : ActsAt w A len cap acts) (hf : Fr No w w') {i : Nat} (hi : i < len) :
    ∃ b off a, A = some ⟨b, off, none⟩ ∧ acts[i]? = some a ∧ a.ok ∧ w'.cell? ⟨b, off + i * 3, none⟩ = some (.int .i64 a.which) ∧ w'.cell? ⟨b, off + i * 3 + 1, none⟩ = some (.int .i64 a.a) ∧ w'.cell? ⟨b, off + i * 3 + 2, none⟩ = some (.int .i64 a.b) := by
  have hsz : ∀ x ∈ acts.map JAct.cells, x.length = 3 := by
    intro x hx
    obtain ⟨a, _, rfl⟩ := List.mem_map.1 hx
    rfl
  have hil : i < acts.length := by rw [h.count]; exact hi
  have hfl := flatten_len hsz
  rw [List.length_map] at hfl
  obtain ⟨b, off, hA, hb, hc⟩ := (h.reads.frNo hf (Nat.le_refl _)).at_ (by rw [hfl]; omega)
  have hg : ∀ j, j < 3 → w'.cell? ⟨b, off + (i * 3 + j), none⟩ = (acts[i].cells)[j]? := by
    intro j hj
    rw [hc (i * 3 + j) (by rw [hfl]; omega), ← List.getElem?_eq_getElem, flatten_get hsz i j (by simpa using hil) hj]
    simp
  exact ⟨b, off, acts[i], hA, List.getElem?_eq_getElem hil, h.each _ (List.getElem_mem hil), hg 0 (by omega), hg 1 (by omega), hg 2 (by omega)⟩
/-- The same, for every later world. -/
theorem ActsAt.at2 {w : World} {A : Option Addr} {len cap : Nat} {acts : List JAct} (h : ActsAt w A len cap acts) {i : Nat} (hi : i < len) :
    ∃ b off a, A = some ⟨b, off, none⟩ ∧ acts[i]? = some a ∧ a.ok ∧ ∀ w' : World, Fr No w w' → w'.cell? ⟨b, off + i * 3, none⟩ = some (.int .i64 a.which) ∧ w'.cell? ⟨b, off + i * 3 + 1, none⟩ = some (.int .i64 a.a) ∧ w'.cell? ⟨b, off + i * 3 + 2, none⟩ = some (.int .i64 a.b) := by
  obtain ⟨b, off, a, rfl, ha, hok, _⟩ := h.at_ (Fr.refl No w) hi
  refine ⟨b, off, a, rfl, ha, hok, fun w' hf => ?_⟩
  obtain ⟨b', off', a', e1, e2, _, h1, h2, h3⟩ := h.at_ hf hi
  rw [ha] at e2
  injection e1 with e1
  injection e1 with e3 e4
  injection e2 with e2
  subst e2 e3 e4
  exact ⟨h1, h2, h3⟩
end Go.Proofs.Ytoiiblopnchljaa
