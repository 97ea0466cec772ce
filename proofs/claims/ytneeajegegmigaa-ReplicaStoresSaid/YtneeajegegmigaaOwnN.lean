/-
  Rows whose elements have several cells: a slice that owns them, appends onto it.
-/
import Derived.Test.YtneeajegegmigaaFr
namespace Go.Proofs.Ytneeajegegmigaa
open Go.ChangeShapes Go.WideShapes Go.ChangeAt Go.RowKit
set_option linter.unusedVariables false

/-- A slice value that owns rows of 'size' cells each, at the head of a block of F (or nil). -/
def OwnN (w : World) (F : Nat → Prop) (e : TypeId) (size : Nat) (v : Value) (n : Nat) (xs : List Value) : Prop :=
  w.ownsRow 0 e size v n xs ∧ ∀ g, v.ownBlock = some g → F g
/-- What an append leaves. -/
def AppendedN (w : World) (base : Nat) (e : TypeId) (size : Nat) (v : Value) (n : Nat) (xs news : List Value) (m : Nat) (v' : Value) (w' : World) : Prop :=
  w'.ownsRow base e size v' (n + m) (xs ++ news) ∧ w.grownBy w' v.ownBlock ∧ (v'.ownBlock = v.ownBlock ∨ v'.ownBlock = some w.heap.size)

section
variable {P : Program} (w : World)
theorem run_append_rdN (base : Nat) (t ty e : TypeId) (i : TypeInfo) (z : Value) (size bytes : Nat) (ht : P.underlying t = some (.slice e)) (hi : P.info? e = some i) (hz : i.zero = some z)
    (hsize : i.size = size) (hby : i.bytes = bytes) (hzs : z.cells.size = size) (hsz : 0 < size)
    (v : Value) (n : Nat) (xs : List Value) (hown : w.ownsRow base e size v n xs)
    (B : Nat) (A : Option Addr) (m c : Nat) (news : List Value) (hA : A = none → m = 0) (hr : Rd w B A news) (hn : news.length = m * size) (h1 : ∀ u ∈ news, u.oneCell' = true)
    (h63 : n + m ≤ maxLen) (hbytes : ((n + m) + (n + m) / 4 + 192) * bytes ≤ 281474976710656) (hbase : base ≤ w.heap.size) :
    ∃ v' w', (Builtin.append_ #[t, t] ty #[v, .slice A m c]).run P w = .ok v' w' ∧ AppendedN w base e size v n xs news m v' w' := by
  rcases A with _ | ad
  · obtain rfl := hA rfl
    obtain rfl : news = [] := List.eq_nil_of_length_eq_zero (by rw [hn, Nat.zero_mul])
    exact ⟨v, w, run_append_nil_src w base t ty e i size ht hi v n xs hown c, by simpa using hown, World.grownBy.refl w _, .inl rfl⟩
  · have hcells : ∀ j u, news[j]? = some u → w.cell? (ad.add j) = some u := by
      intro j u hu
      obtain ⟨hj, hu⟩ := List.getElem?_eq_some_iff.1 hu
      obtain ⟨b, off, he, _, hc⟩ := hr.at_ (by omega)
      injection he with he
      subst he
      have := hc j hj
      have ea : (⟨b, off, none⟩ : Addr).add j = ⟨b, off + j, none⟩ := by unfold Addr.add; split <;> simp_all
      rw [ea, this, hu]
    obtain ⟨v', w', hrun, h2, h3, h5⟩ := run_append_at (P := P) w base t ty e i z size bytes ht hi hz hsize hby hzs hsz v n xs hown ad m c news hn hcells h1 h63 hbytes hbase
    exact ⟨v', w', hrun, h2, h3, h5⟩

theorem wp_append_rdN {o : Oper} {a : Act} {K : Act → World → Prop} {Q : Exit → Act → World → Prop} (s x : Operand) (t : TypeId)
    (ho : o.op = .call { callee := .builtin .append, args := #[s, x], argTypes := #[t, t] })
    (base : Nat) (e : TypeId) (i : TypeInfo) (z : Value) (size bytes : Nat) (ht : P.underlying t = some (.slice e)) (hi : P.info? e = some i) (hz : i.zero = some z)
    (hsize : i.size = size) (hby : i.bytes = bytes) (hzs : z.cells.size = size) (hsz : 0 < size)
    (v : Value) (n : Nat) (xs : List Value) (hs : a.eval s = v) (hown : w.ownsRow base e size v n xs)
    (B : Nat) (A : Option Addr) (m c : Nat) (news : List Value) (hx : a.eval x = .slice A m c) (hA : A = none → m = 0) (hr : Rd w B A news) (hn : news.length = m * size) (h1 : ∀ u ∈ news, u.oneCell' = true)
    (h63 : n + m ≤ maxLen) (hbytes : ((n + m) + (n + m) / 4 + 192) * bytes ≤ 281474976710656) (hbase : base ≤ w.heap.size)
    (h : ∀ v' w', AppendedN w base e size v n xs news m v' w' → K (a.put o.dst v') w') : o.wp P a w K Q := by
  obtain ⟨v', w', hrun, h2⟩ := run_append_rdN (P := P) w base t o.type e i z size bytes ht hi hz hsize hby hzs hsz v n xs hown B A m c news hA hr hn h1 h63 hbytes hbase
  unfold Oper.wp execOp
  simp only [ho, resolve, invoke, builtin, Sem.run_bind, Sem.run_pure, Result.andThen_ok, List.map_toArray, List.map_cons, List.map_nil, hs, hx, hrun]
  exact h v' w' h2

theorem wpList_append_rdN {ops : Array Oper} {rest : List Oper} {o : Oper} {a : Act} {Q : Exit → Act → World → Prop} (hgd : Region.wanted o (yielded ops a.tmps) = true) (s x : Operand) (t : TypeId)
    (ho : o.op = .call { callee := .builtin .append, args := #[s, x], argTypes := #[t, t] })
    (base : Nat) (e : TypeId) (i : TypeInfo) (z : Value) (size bytes : Nat) (ht : P.underlying t = some (.slice e)) (hi : P.info? e = some i) (hz : i.zero = some z)
    (hsize : i.size = size) (hby : i.bytes = bytes) (hzs : z.cells.size = size) (hsz : 0 < size)
    (v : Value) (n : Nat) (xs : List Value) (hs : a.eval s = v) (hown : w.ownsRow base e size v n xs)
    (B : Nat) (A : Option Addr) (m c : Nat) (news : List Value) (hx : a.eval x = .slice A m c) (hA : A = none → m = 0) (hr : Rd w B A news) (hn : news.length = m * size) (h1 : ∀ u ∈ news, u.oneCell' = true)
    (h63 : n + m ≤ maxLen) (hbytes : ((n + m) + (n + m) / 4 + 192) * bytes ≤ 281474976710656) (hbase : base ≤ w.heap.size)
    (h : ∀ v' w', AppendedN w base e size v n xs news m v' w' → wpList P ops Q rest (a.put o.dst v') w') : wpList P ops Q (o :: rest) a w :=
  wpList_step fun _ hK => by
    rw [if_pos hgd]
    exact wp_append_rdN w s x t ho base e i z size bytes ht hi hz hsize hby hzs hsz v n xs hs hown B A m c news hx hA hr hn h1 h63 hbytes hbase fun v' w' h2 => hK _ _ (h v' w' h2)
theorem step_append_rdN {ops : Array Oper} {o : Oper} {a : Act} {K : Act → World → Prop} {Q : Exit → Act → World → Prop} {E : Prop} (hgd : o.guard = none) (s x : Operand) (t : TypeId)
    (ho : o.op = .call { callee := .builtin .append, args := #[s, x], argTypes := #[t, t] })
    (base : Nat) (e : TypeId) (i : TypeInfo) (z : Value) (size bytes : Nat) (ht : P.underlying t = some (.slice e)) (hi : P.info? e = some i) (hz : i.zero = some z)
    (hsize : i.size = size) (hby : i.bytes = bytes) (hzs : z.cells.size = size) (hsz : 0 < size)
    (v : Value) (n : Nat) (xs : List Value) (hs : a.eval s = v) (hown : w.ownsRow base e size v n xs)
    (B : Nat) (A : Option Addr) (m c : Nat) (news : List Value) (hx : a.eval x = .slice A m c) (hA : A = none → m = 0) (hr : Rd w B A news) (hn : news.length = m * size) (h1 : ∀ u ∈ news, u.oneCell' = true)
    (h63 : n + m ≤ maxLen) (hbytes : ((n + m) + (n + m) / 4 + 192) * bytes ≤ 281474976710656) (hbase : base ≤ w.heap.size)
    (h : ∀ v' w', AppendedN w base e size v n xs news m v' w' → K (a.put o.dst v') w') :
    if Region.wanted o (yielded ops a.tmps) = true then Oper.wp P o a w K Q else E := by
  have hw : Region.wanted o (yielded ops a.tmps) = true := by simp [Region.wanted, hgd]
  rw [if_pos hw]
  exact wp_append_rdN w s x t ho base e i z size bytes ht hi hz hsize hby hzs hsz v n xs hs hown B A m c news hx hA hr hn h1 h63 hbytes hbase h
end


section
variable {w w' : World} {F G : Nat → Prop} {e : TypeId} {size n : Nat} {v : Value} {xs : List Value}
theorem OwnN.lt (h : OwnN w F e size v n xs) : ∀ g, v.ownBlock = some g → g < w.heap.size := fun g hg => (h.1.lt g hg).2
theorem OwnN.fr' (h : OwnN w F e size v n xs) (hf : Fr G w w') (hd : ∀ g, v.ownBlock = some g → ¬ G g) : OwnN w' F e size v n xs := by
  refine ⟨⟨h.1.1, ?_⟩, h.2⟩
  rcases h.1.2 with hn | ⟨g, cap, cur, rfl, hb, hgg, rest⟩
  · exact .inl hn
  · refine .inr ⟨g, cap, cur, rfl, hb, ?_, rest⟩
    rw [hf.block g (Array.getElem?_eq_some_iff.1 hgg).1 (hd g rfl)]
    exact hgg
theorem OwnN.frNo (h : OwnN w F e size v n xs) (hf : Fr No w w') : OwnN w' F e size v n xs := h.fr' hf fun _ _ hi => hi
theorem OwnN.mono (h : OwnN w F e size v n xs) (hFG : ∀ i, F i → G i) : OwnN w G e size v n xs := ⟨h.1, fun g hg => hFG g (h.2 g hg)⟩
theorem OwnN.form (h : OwnN w F e size v n xs) : ∃ A cap, v = .slice A n cap ∧ (A = none → n = 0) := ownsRow_slice_form h.1
theorem OwnN.nil (w : World) (F : Nat → Prop) (e : TypeId) (size : Nat) : OwnN w F e size (.slice none 0 0) 0 [] := ⟨World.ownsRow_nil _ _ _ _, fun g hg => by cases hg⟩
theorem OwnN.cap {A : Option Addr} {c : Nat} (h : OwnN w F e size (.slice A n c) n xs) : n ≤ c ∧ c ≤ maxLen := by
  rcases h.1.2 with ⟨hv, h0⟩ | ⟨g, cap, cur, hv, hb, hgg, hnc, hcm, hcs, htk⟩
  · injection hv with e1 e2 e3
    omega
  · injection hv with e1 e2 e3
    subst e3
    exact ⟨hnc, hcm⟩
theorem OwnN.cut {A : Option Addr} {c k : Nat} (h : OwnN w F e size (.slice A n c) n xs) (hk : k ≤ n) : OwnN w F e size (.slice A k c) k (xs.take (k * size)) := by
  have hle : k * size ≤ n * size := Nat.mul_le_mul_right _ hk
  refine ⟨⟨by rw [List.length_take, h.1.1]; omega, ?_⟩, fun g hg => h.2 g (by rcases A with _ | a <;> exact hg)⟩
  rcases h.1.2 with ⟨hv, h0⟩ | ⟨g, cap, cur, hv, hb, hgg, hnc, hcm, hcs, htk⟩
  · injection hv with e1 e2 e3
    subst e1 e3
    obtain rfl : k = 0 := by omega
    exact .inl ⟨rfl, rfl⟩
  · injection hv with e1 e2 e3
    subst e1 e3
    refine .inr ⟨g, c, cur, rfl, hb, hgg, by omega, hcm, hcs, ?_⟩
    rw [← htk, List.take_take]
    congr 1
    omega
theorem OwnN.ne_blk {g : Nat} {t : TypeId} {cs : Array Value} (h : OwnN w F e size v n xs) (hb : Blk w g t cs) (hne : e ≠ t) : ∀ k, v.ownBlock = some k → k ≠ g := by
  intro k hk
  rcases h.1.2 with ⟨rfl, _⟩ | ⟨g', cap, cur, rfl, _, hh, _⟩
  · cases hk
  · rintro rfl
    obtain rfl : g' = k := by simpa [Value.ownBlock] using hk
    unfold Blk at hb
    rw [hh] at hb
    injection hb with hb
    injection hb with _ ht
    exact hne ht
/-- The cells of the rows. -/
theorem OwnN.head {A : Option Addr} {c : Nat} (h : OwnN w F e size (.slice A n c) n xs) (hp : 0 < n) :
    ∃ b, A = some ⟨b, 0, none⟩ ∧ b < w.heap.size ∧ F b ∧ ∀ k, k < xs.length → w.cell? ⟨b, k, none⟩ = xs[k]? := by
  rcases h.1.2 with ⟨hv, h0⟩ | ⟨g, cap, cur, hv, hb, hgg, hnc, hcm, hcs, htk⟩
  · omega
  · injection hv with e1 e2 e3
    subst e1 e3
    refine ⟨g, rfl, (Array.getElem?_eq_some_iff.1 hgg).1, h.2 g rfl, fun k hk => ?_⟩
    rw [cell_of_row w g k cur e (0, 0) hgg, ← htk]
    have : k < n * size := by rw [← h.1.1]; exact hk
    rw [List.getElem?_take, if_pos this, Array.getElem?_toList]
theorem OwnN.rd {A : Option Addr} {c : Nat} (h : OwnN w F e size (.slice A n c) n xs) : Rd w w.heap.size A xs := by
  by_cases h0 : xs = []
  · exact .inl h0
  · have hx : 0 < xs.length := by
      rcases xs with _ | ⟨x, xs⟩
      · exact absurd rfl h0
      · simp
    have hn : 0 < n := by
      rcases Nat.eq_zero_or_pos n with rfl | hn
      · rw [h.1.1, Nat.zero_mul] at hx; omega
      · exact hn
    obtain ⟨b, rfl, hb, _, hc⟩ := h.head hn
    exact .inr ⟨b, 0, rfl, hb, fun j hj => by rw [Nat.zero_add, hc j hj, List.getElem?_eq_getElem hj]⟩
theorem OwnN.appended (h : OwnN w F e size v n xs) {news : List Value} {m : Nat} {v' : Value} (ha : AppendedN w 0 e size v n xs news m v' w') :
    OwnN w' (fun i => F i ∨ (i = w.heap.size ∧ i < w'.heap.size)) e size v' (n + m) (xs ++ news) ∧ Fr F w w' := by
  refine ⟨⟨ha.1, fun g hg => ?_⟩, (Fr.refl F w).grown ha.2.1 fun k hk => .inl (h.2 k hk)⟩
  rcases ha.2.2 with e1 | e1
  · exact .inl (h.2 g (e1.symm.trans hg))
  · have hlt := (ha.1.lt g hg).2
    rw [e1] at hg
    injection hg with hg
    exact .inr ⟨hg.symm, hlt⟩
end
end Go.Proofs.Ytneeajegegmigaa
