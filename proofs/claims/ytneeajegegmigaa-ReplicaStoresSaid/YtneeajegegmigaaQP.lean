/-
  Several texts in one: RepP, RepQ.
-/
import Derived.Test.YtneeajegegmigaaJrnE
/- The plain law of replicas: what each call makes of a replica, and what it answers. -/
namespace Go.Proofs.Ytneeajegegmigaa
set_option linter.unusedVariables false

/-- A message between replicas. -/
structure Ms where
  kind : Int
  from_ : Int
  to_ : Int
  term : Int
  index : Int
  prev : Int
  commit : Int
  ok : Bool
  es : List Lg
/-- What a replica knows. -/
structure Rs where
  js : Js
  id : Nat
  n : Nat
  role : Int
  commit : Nat
  votes : Nat
  next : Nat → Nat
  mtch : Nat → Nat
def repNew (id n : Nat) : Rs := ⟨jsNew, id, n, 1, 0, 0, fun _ => 0, fun _ => 0⟩

def lastT (l : List Lg) : Int := termAt l ((l.length : Int) - 1)
def others (id n : Nat) : List Nat := (List.range n).filter (· != id)
def Rs.vote (r : Rs) (dst : Nat) : Ms := ⟨1, r.id, dst, r.js.term, r.js.log.length, lastT r.js.log, 0, false, []⟩
def Rs.app (r : Rs) (dst : Nat) : Ms := ⟨3, r.id, dst, r.js.term, r.next dst, termAt r.js.log ((r.next dst : Int) - 1), r.commit, false, r.js.log.drop (r.next dst)⟩
def Rs.toAll (r : Rs) : List Ms := (others r.id r.n).map r.app
def Rs.lead (r : Rs) : Rs := { r with role := 3, next := fun _ => r.js.log.length, mtch := fun _ => 0 }
/-- How many of the first k replicas have stored m entries; the leader itself counts as one. -/
def Rs.stores (r : Rs) (m : Nat) : Nat → Nat
  | 0 => 1
  | k + 1 => r.stores m k + if k ≠ r.id ∧ m ≤ r.mtch k then 1 else 0
def Rs.advG (r : Rs) : Nat → Nat
  | 0 => r.commit
  | m + 1 => if m + 1 ≤ r.commit then r.commit else if termAt r.js.log (m : Int) = r.js.term ∧ r.n < 2 * r.stores (m + 1) r.n then m + 1 else r.advG m
def Rs.advance (r : Rs) : Rs := { r with commit := r.advG r.js.log.length }
/-- How many of the first k replicas have voted. -/
def cntV (v : Nat) : Nat → Nat
  | 0 => 0
  | k + 1 => cntV v k + if v.testBit k then 1 else 0

def Rs.campaign (r : Rs) : Rs × List Ms :=
  if 1073741824 ≤ r.js.term then (r, []) else
  if r.n = 1 then (({ r with js := ⟨r.js.term + 1, r.id, r.js.log⟩, role := 2, votes := 2 ^ r.id } : Rs).lead, []) else
  (({ r with js := ⟨r.js.term + 1, r.id, r.js.log⟩, role := 2, votes := 2 ^ r.id } : Rs), (others r.id r.n).map ({ r with js := ⟨r.js.term + 1, r.id, r.js.log⟩, role := 2, votes := 2 ^ r.id } : Rs).vote)
def Rs.proposed (r : Rs) (e : En) : Rs := ({ r with js := addS r.js r.js.term e } : Rs).advance
/-- What Propose answers. -/
def Rs.propX (r : Rs) (e : En) : Int := if r.role ≠ 3 then 4 else addX r.js r.js.term e
def Rs.propose (r : Rs) (e : En) : Rs × List Ms := if r.propX e = 0 then (r.proposed e, (r.proposed e).toAll) else (r, [])
def Rs.beat (r : Rs) : List Ms := if r.role ≠ 3 then [] else r.toAll

def chainB (hi : Int) : Int → List Lg → Bool
  | _, [] => true
  | low, x :: l => shapeB x.e && (decide (low ≤ x.term) && (decide (x.term ≤ hi) && chainB hi x.term l))
def properA (m : Ms) : Bool := ((m.prev == 0) == (m.index == 0)) && (decide (m.index + m.es.length ≤ 4096) && chainB m.term (max 1 m.prev) m.es)
def Rs.properB (r : Rs) (m : Ms) : Bool :=
  decide (m.to_ = r.id ∧ m.from_ ≠ r.id ∧ 0 ≤ m.from_ ∧ m.from_ < r.n ∧ 1 ≤ m.term ∧ m.term ≤ 1073741824 ∧ 0 ≤ m.index ∧ m.index ≤ 4096 ∧ 0 ≤ m.prev ∧ m.prev ≤ m.term ∧ 0 ≤ m.commit ∧ m.commit ≤ 4096)
def Rs.proper (r : Rs) (m : Ms) : Bool := r.properB m && (decide (m.kind = 1 ∨ m.kind = 2 ∨ m.kind = 4) || (decide (m.kind = 3) && properA m))

/-- The term and the role behind a message of a greater term. -/
def Rs.meets (r : Rs) (t : Int) : Rs := if r.js.term < t then { r with js := ⟨t, -1, r.js.log⟩, role := 1 } else r
def Rs.grants (r : Rs) (m : Ms) : Bool :=
  decide (m.term = r.js.term ∧ (r.js.vote = -1 ∨ r.js.vote = m.from_) ∧ (lastT r.js.log < m.prev ∨ m.prev = lastT r.js.log ∧ (r.js.log.length : Int) ≤ m.index))
def Rs.onVote (r : Rs) (m : Ms) : Rs × List Ms :=
  (if r.grants m then { r with js := ⟨m.term, m.from_, r.js.log⟩ } else r, [⟨2, r.id, m.from_, r.js.term, 0, 0, 0, r.grants m, []⟩])
def Rs.onVoted (r : Rs) (m : Ms) : Rs × List Ms :=
  if r.role ≠ 2 ∨ m.term ≠ r.js.term ∨ m.ok = false then (r, []) else
  if 2 * cntV (r.votes ||| 2 ^ m.from_.toNat) r.n ≤ r.n then ({ r with votes := r.votes ||| 2 ^ m.from_.toNat }, []) else
  (({ r with votes := r.votes ||| 2 ^ m.from_.toNat } : Rs).lead, ({ r with votes := r.votes ||| 2 ^ m.from_.toNat } : Rs).lead.toAll)
def Rs.answer (r : Rs) (dst index : Int) (ok : Bool) : List Ms := [⟨4, r.id, dst, r.js.term, index, 0, 0, ok, []⟩]
/-- How many of the entries from place p on are there already. -/
def matchK (l : List Lg) : Nat → List Lg → Nat
  | _, [] => 0
  | p, x :: es => if termAt l (p : Int) = x.term then matchK l (p + 1) es + 1 else 0
def addAll (s : Js) (es : List Lg) : Js := es.foldl (fun s x => addS s x.term x.e) s
def replaceS (s : Js) (p : Nat) (es : List Lg) : Js := addAll (if p < s.log.length then ⟨s.term, s.vote, s.log.take p⟩ else s) es
/-- Whether an append message fits the log. -/
def Rs.fits (r : Rs) (m : Ms) : Bool := decide (m.index ≤ r.js.log.length ∧ (m.index = 0 ∨ termAt r.js.log (m.index - 1) = m.prev))
def Rs.onAppend (r : Rs) (m : Ms) : Rs × List Ms :=
  if m.term < r.js.term then (r, r.answer m.from_ 0 false) else
  if r.role = 3 then (r, []) else
  if r.fits m = false then ({ r with role := 1 }, r.answer m.from_ (min (r.js.log.length : Int) (m.index - 1)) false) else
  if matchK r.js.log m.index.toNat m.es < m.es.length then
    if m.index.toNat + matchK r.js.log m.index.toNat m.es < r.commit then ({ r with role := 1 }, []) else
    ({ r with role := 1, js := replaceS r.js (m.index.toNat + matchK r.js.log m.index.toNat m.es) (m.es.drop (matchK r.js.log m.index.toNat m.es)), commit := max r.commit (min m.commit.toNat (m.index.toNat + m.es.length)) }, r.answer m.from_ (m.index + m.es.length) true)
  else ({ r with role := 1, commit := max r.commit (min m.commit.toNat (m.index.toNat + m.es.length)) }, r.answer m.from_ (m.index + m.es.length) true)
def setAt (f : Nat → Nat) (i v : Nat) : Nat → Nat := fun k => if k = i then v else f k
def Rs.onStored (r : Rs) (m : Ms) : Rs × List Ms :=
  if r.role ≠ 3 ∨ m.term ≠ r.js.term then (r, []) else
  if m.ok = false then
    ({ r with next := setAt r.next m.from_.toNat (min (r.next m.from_.toNat - 1) m.index.toNat) }, [({ r with next := setAt r.next m.from_.toNat (min (r.next m.from_.toNat - 1) m.index.toNat) } : Rs).app m.from_.toNat])
  else if m.index ≤ r.js.log.length then
    (({ r with mtch := setAt r.mtch m.from_.toNat (max (r.mtch m.from_.toNat) m.index.toNat), next := setAt r.next m.from_.toNat (max (r.mtch m.from_.toNat) m.index.toNat) } : Rs).advance, [])
  else (r, [])
/-- The message is handled by its kind. -/
def Rs.takes (r : Rs) (m : Ms) : Rs × List Ms :=
  if m.kind = 1 then r.onVote m else if m.kind = 2 then r.onVoted m else if m.kind = 3 then r.onAppend m else r.onStored m
def Rs.handle (r : Rs) (m : Ms) : Rs × List Ms := if r.proper m = false then (r, []) else (r.meets m.term).takes m
def Rs.crash (r : Rs) : Rs := { r with role := 1, commit := 0 }

/-- The logs that journals have. -/
structure LogOk (l : List Lg) (hi : Int) : Prop where
  few : l.length ≤ 4096
  each : ∀ x ∈ l, 1 ≤ x.term ∧ x.term ≤ hi ∧ shapeB x.e = true ∧ x.e.ok
  asc : ∀ (i j : Nat) (x y : Lg), i ≤ j → l[i]? = some x → l[j]? = some y → x.term ≤ y.term
/-- The replicas that there are. -/
structure RsOk (r : Rs) : Prop where
  log : LogOk r.js.log r.js.term
  lo : 0 ≤ r.js.term
  hi : r.js.term ≤ 1073741824
  vlo : -1 ≤ r.js.vote
  vhi : r.js.vote < 5
  idn : r.id < r.n
  five : r.n ≤ 5
  role : r.role = 1 ∨ r.role = 2 ∨ r.role = 3
  com : r.commit ≤ r.js.log.length
  vts : r.votes < 32
  nxt : r.role = 3 → ∀ i, r.next i ≤ r.js.log.length
  mts : r.role = 3 → ∀ i, r.mtch i ≤ r.js.log.length

theorem LogOk.nil (hi : Int) : LogOk [] hi := ⟨by simp, (fun x h => by cases h), fun i j x y _ h => by simp at h⟩
theorem LogOk.up {l : List Lg} {a b : Int} (h : LogOk l a) (hab : a ≤ b) : LogOk l b := ⟨h.few, fun x hx => by obtain ⟨h1, h2, h3⟩ := h.each x hx; exact ⟨h1, by omega, h3⟩, h.asc⟩
theorem LogOk.take {l : List Lg} {a : Int} (h : LogOk l a) (k : Nat) : LogOk (l.take k) a := by
  refine ⟨by have := h.few; rw [List.length_take]; omega, fun x hx => h.each x (List.mem_of_mem_take hx), fun i j x y hij hx hy => ?_⟩
  rw [List.getElem?_take] at hx hy
  split at hx
  · split at hy
    · exact h.asc i j x y hij hx hy
    · cases hy
  · cases hx
theorem termAt_at {l : List Lg} {k : Nat} {x : Lg} (h : l[k]? = some x) : termAt l (k : Int) = x.term := by
  unfold termAt
  rw [if_pos (by omega), Int.toNat_natCast, h]
  rfl
theorem termAt_out {l : List Lg} {k : Nat} (h : l.length ≤ k) : termAt l (k : Int) = 0 := by
  unfold termAt
  rw [if_pos (by omega), Int.toNat_natCast, List.getElem?_eq_none h]
  rfl
theorem termAt_neg {l : List Lg} {k : Int} (h : k < 0) : termAt l k = 0 := by
  unfold termAt
  rw [if_neg (by omega)]
theorem LogOk.termAt_bd {l : List Lg} {a : Int} (h : LogOk l a) (ha : 0 ≤ a) (k : Int) : 0 ≤ termAt l k ∧ termAt l k ≤ a := by
  by_cases hk : k < 0
  · rw [termAt_neg hk]; omega
  · obtain ⟨n, rfl⟩ : ∃ n : Nat, k = n := ⟨k.toNat, by omega⟩
    by_cases hn : l.length ≤ n
    · rw [termAt_out hn]; omega
    · obtain ⟨x, hx⟩ : ∃ x, l[n]? = some x := ⟨_, List.getElem?_eq_getElem (by omega)⟩
      rw [termAt_at hx]
      have := h.each x (List.mem_of_getElem? hx)
      omega
theorem LogOk.mono {l : List Lg} {a : Int} (h : LogOk l a) {i j : Nat} (hij : i ≤ j) (hj : j < l.length) : termAt l (i : Int) ≤ termAt l (j : Int) := by
  obtain ⟨x, hx⟩ : ∃ x, l[i]? = some x := ⟨_, List.getElem?_eq_getElem (by omega)⟩
  obtain ⟨y, hy⟩ : ∃ y, l[j]? = some y := ⟨_, List.getElem?_eq_getElem hj⟩
  rw [termAt_at hx, termAt_at hy]
  exact h.asc i j x y hij hx hy
theorem LogOk.snoc {l : List Lg} {a : Int} (h : LogOk l a) {x : Lg} (h1 : 1 ≤ x.term) (h2 : x.term ≤ a) (h3 : shapeB x.e = true) (h4 : x.e.ok) (h5 : lastT l ≤ x.term) (h6 : l.length < 4096) : LogOk (l ++ [x]) a := by
  have hl : ∀ (i : Nat) (y : Lg), l[i]? = some y → y.term ≤ x.term := fun i y hy => by
    have hi := (List.getElem?_eq_some_iff.1 hy).1
    obtain ⟨z, hz⟩ : ∃ z, l[l.length - 1]? = some z := ⟨_, List.getElem?_eq_getElem (by omega)⟩
    have := h.asc i (l.length - 1) y z (by omega) hy hz
    have h7 : lastT l = z.term := by unfold lastT; rw [show ((l.length : Int) - 1) = ((l.length - 1 : Nat) : Int) from by omega, termAt_at hz]
    omega
  refine ⟨by simp; omega, fun y hy => ?_, fun i j y z hij hy hz => ?_⟩
  · rcases List.mem_append.1 hy with hy | hy
    · exact h.each y hy
    · simp at hy; subst hy; exact ⟨h1, h2, h3, h4⟩
  · rcases Nat.lt_or_ge j l.length with hj | hj
    · rw [List.getElem?_append_left (by omega)] at hy
      rw [List.getElem?_append_left hj] at hz
      exact h.asc i j y z hij hy hz
    · rw [List.getElem?_append_right hj] at hz
      have hj0 : j - l.length = 0 := by
        have := (List.getElem?_eq_some_iff.1 hz).1
        simp at this; omega
      rw [hj0] at hz
      simp at hz
      subst hz
      rcases Nat.lt_or_ge i l.length with hi | hi
      · rw [List.getElem?_append_left hi] at hy
        exact hl i y hy
      · rw [List.getElem?_append_right hi] at hy
        have hi0 : i - l.length = 0 := by omega
        rw [hi0] at hy
        simp at hy
        subst hy
        exact Int.le_refl _

theorem setTermS_yes (s : Js) (t v : Int) (h1 : 0 ≤ t) (h2 : t ≤ 1073741824) (h3 : -1 ≤ v) (h4 : v < 5) (h5 : s.term < t ∨ s.term = t ∧ (s.vote = -1 ∨ s.vote = v)) : setTermX s t v = 0 ∧ setTermS s t v = ⟨t, v, s.log⟩ := by
  have hx : setTermX s t v = 0 := by
    unfold setTermX
    rw [if_neg (by omega), if_neg (by rcases h5 with h5 | ⟨h5, h6 | h6⟩ <;> omega)]
  exact ⟨hx, by unfold setTermS; rw [if_pos hx]⟩
theorem addX_zero {s : Js} {t : Int} {e : En} (h1 : 1 ≤ t) (h2 : t ≤ 1073741824) (h3 : shapeB e = true) (h4 : t ≤ s.term) (h5 : lastT s.log ≤ t) (h6 : s.log.length < 4096) : addX s t e = 0 := by
  unfold addX
  unfold lastT at h5
  rw [if_neg (by rw [h3]; simp; omega), if_neg (by omega), if_neg (by omega)]
theorem addS_yes {s : Js} {t : Int} {e : En} (h : addX s t e = 0) : addS s t e = ⟨s.term, s.vote, s.log ++ [⟨t, e⟩]⟩ := by unfold addS; rw [if_pos h]
theorem LogOk.add {s : Js} (h : LogOk s.log s.term) (t : Int) (e : En) (he : e.ok) : LogOk (addS s t e).log (addS s t e).term := by
  by_cases h0 : addX s t e = 0
  · rw [addS_yes h0]
    obtain ⟨b1, b2, b3, b4, b5, b6⟩ := addX_bd h0
    exact h.snoc b1 b4 b3 he b5 b6
  · rw [addS_no h0]; exact h
theorem addS_tv (s : Js) (t : Int) (e : En) : (addS s t e).term = s.term ∧ (addS s t e).vote = s.vote := by
  by_cases h0 : addX s t e = 0
  · rw [addS_yes h0]; exact ⟨rfl, rfl⟩
  · rw [addS_no h0]; exact ⟨rfl, rfl⟩
theorem addAll_tv (es : List Lg) : ∀ s : Js, (addAll s es).term = s.term ∧ (addAll s es).vote = s.vote := by
  induction es with
  | nil => exact fun s => ⟨rfl, rfl⟩
  | cons x es ih =>
    intro s
    have h1 := ih (addS s x.term x.e)
    have h2 := addS_tv s x.term x.e
    exact ⟨h1.1.trans h2.1, h1.2.trans h2.2⟩
theorem addAll_cons (s : Js) (x : Lg) (es : List Lg) : addAll s (x :: es) = addAll (addS s x.term x.e) es := rfl
theorem LogOk.addAll (es : List Lg) : ∀ {s : Js}, LogOk s.log s.term → (∀ x ∈ es, x.e.ok) → LogOk (addAll s es).log (addAll s es).term := by
  induction es with
  | nil => exact fun h _ => h
  | cons x es ih => exact fun h he => ih (h.add x.term x.e (he x (by simp))) fun y hy => he y (by simp [hy])

theorem chainB_each {hi : Int} : ∀ (es : List Lg) (low : Int), chainB hi low es = true → ∀ x ∈ es, shapeB x.e = true ∧ low ≤ x.term ∧ x.term ≤ hi := by
  intro es
  induction es with
  | nil => intro low _ x hx; cases hx
  | cons y es ih =>
    intro low h x hx
    simp only [chainB, Bool.and_eq_true, decide_eq_true_eq] at h
    rcases List.mem_cons.1 hx with rfl | hx
    · exact ⟨h.1, h.2.1, h.2.2.1⟩
    · have := ih y.term h.2.2.2 x hx
      exact ⟨this.1, by omega, this.2.2⟩
theorem chainB_drop {hi : Int} : ∀ (es : List Lg) (low : Int) (k : Nat), chainB hi low es = true → (k = 0 ∧ chainB hi low (es.drop k) = true) ∨ (es.length ≤ k) ∨ (∃ y, es[k - 1]? = some y ∧ 0 < k ∧ chainB hi y.term (es.drop k) = true) := by
  intro es
  induction es with
  | nil => intro low k h; exact .inr (.inl (Nat.zero_le _))
  | cons y es ih =>
    intro low k h
    rcases k with _ | k
    · exact .inl ⟨rfl, h⟩
    · simp only [chainB, Bool.and_eq_true, decide_eq_true_eq] at h
      rcases ih y.term k h.2.2.2 with ⟨rfl, h2⟩ | h2 | ⟨z, h2, h3, h4⟩
      · exact .inr (.inr ⟨y, rfl, by omega, by simpa using h2⟩)
      · exact .inr (.inl (by simpa using h2))
      · refine .inr (.inr ⟨z, ?_, by omega, by simpa using h4⟩)
        rw [show k + 1 - 1 = (k - 1) + 1 from by omega]
        simpa using h2
/-- Entries that are in order are all added. -/
theorem addAll_all (es : List Lg) : ∀ {s : Js} {low : Int}, chainB s.term low es = true → 1 ≤ low → s.term ≤ 1073741824 → lastT s.log ≤ low → s.log.length + es.length ≤ 4096 → addAll s es = ⟨s.term, s.vote, s.log ++ es⟩ := by
  induction es with
  | nil => intro s low _ _ _ _ _; rw [List.append_nil]; rfl
  | cons x es ih =>
    intro s low h h1 h2 h3 h4
    simp only [chainB, Bool.and_eq_true, decide_eq_true_eq] at h
    obtain ⟨g1, g2, g3, g4⟩ := h
    rw [List.length_cons] at h4
    have hx : addX s x.term x.e = 0 := addX_zero (by omega) (by omega) g1 g3 (by omega) (by omega)
    rw [addAll_cons, addS_yes hx]
    have hl : lastT (s.log ++ [⟨x.term, x.e⟩]) = x.term := by
      unfold lastT
      rw [show (((s.log ++ [(⟨x.term, x.e⟩ : Lg)]).length : Int) - 1) = ((s.log.length : Nat) : Int) from by simp]
      exact termAt_at (x := ⟨x.term, x.e⟩) (by rw [List.getElem?_append_right (Nat.le_refl _)]; simp)
    have h5 := ih (s := ⟨s.term, s.vote, s.log ++ [⟨x.term, x.e⟩]⟩) (low := x.term) g4 (by omega) h2 (by show lastT (s.log ++ [⟨x.term, x.e⟩]) ≤ _; omega) (by simp only [List.length_append, List.length_singleton]; omega)
    rw [h5]
    simp
theorem matchK_le (l : List Lg) (es : List Lg) : ∀ p, matchK l p es ≤ es.length := by
  induction es with
  | nil => intro p; exact Nat.le_refl _
  | cons x es ih =>
    intro p
    simp only [matchK]
    split
    · have := ih (p + 1); simp; omega
    · exact Nat.zero_le _
/-- The entries that are there already have the same terms. -/
theorem matchK_same (l : List Lg) (es : List Lg) : ∀ p k, k < matchK l p es → ∃ y, es[k]? = some y ∧ termAt l ((p + k : Nat) : Int) = y.term := by
  induction es with
  | nil => intro p k h; simp [matchK] at h
  | cons x es ih =>
    intro p k h
    simp only [matchK] at h
    split at h
    · rename_i h0
      rcases k with _ | k
      · exact ⟨x, rfl, h0⟩
      · obtain ⟨y, h1, h2⟩ := ih (p + 1) k (by omega)
        exact ⟨y, by simpa using h1, by rw [show p + (k + 1) = p + 1 + k from by omega]; exact h2⟩
    · omega
theorem matchK_stop (l : List Lg) (es : List Lg) : ∀ p, matchK l p es < es.length → ∃ y, es[matchK l p es]? = some y ∧ termAt l ((p + matchK l p es : Nat) : Int) ≠ y.term := by
  induction es with
  | nil => intro p h; simp [matchK] at h
  | cons x es ih =>
    intro p h
    simp only [matchK] at h ⊢
    split at h
    · rename_i h0
      rw [if_pos h0]
      obtain ⟨y, h1, h2⟩ := ih (p + 1) (by simpa using h)
      exact ⟨y, by simpa using h1, by rw [show p + (matchK l (p + 1) es + 1) = p + 1 + matchK l (p + 1) es from by omega]; exact h2⟩
    · rename_i h0
      rw [if_neg h0]
      exact ⟨x, rfl, by simpa using h0⟩

theorem Rs.advG_bd (r : Rs) : ∀ m, r.commit ≤ r.advG m ∧ (r.advG m ≤ r.commit ∨ r.advG m ≤ m) := by
  intro m
  induction m with
  | zero => exact ⟨Nat.le_refl _, .inl (Nat.le_refl _)⟩
  | succ m ih =>
    simp only [Rs.advG]
    split
    · exact ⟨Nat.le_refl _, .inl (Nat.le_refl _)⟩
    · split
      · exact ⟨by omega, .inr (Nat.le_refl _)⟩
      · omega
theorem others_mem {id n k : Nat} : k ∈ others id n ↔ k < n ∧ k ≠ id := by simp [others]
end Go.Proofs.Ytneeajegegmigaa
/- The plain law of replicas: what there are stays what there are. -/
namespace Go.Proofs.Ytneeajegegmigaa
set_option linter.unusedVariables false

theorem RsOk.new {id n : Nat} (h1 : id < n) (h2 : n ≤ 5) : RsOk (repNew id n) :=
  ⟨LogOk.nil _, by simp [repNew], by simp [repNew], by simp [repNew], by simp [repNew], h1, h2, .inl rfl, Nat.le_refl _, by simp [repNew], fun h => by simp [repNew] at h, fun h => by simp [repNew] at h⟩
theorem RsOk.lead {r : Rs} (h : RsOk r) : RsOk r.lead :=
  ⟨h.log, h.lo, h.hi, h.vlo, h.vhi, h.idn, h.five, .inr (.inr rfl), h.com, h.vts, fun _ _ => Nat.le_refl _, fun _ _ => Nat.zero_le _⟩
theorem RsOk.advance {r : Rs} (h : RsOk r) : RsOk r.advance := by
  refine ⟨h.log, h.lo, h.hi, h.vlo, h.vhi, h.idn, h.five, h.role, ?_, h.vts, h.nxt, h.mts⟩
  have h1 := r.advG_bd r.js.log.length
  have h2 := h.com
  show r.advG r.js.log.length ≤ r.js.log.length
  omega
theorem RsOk.meets {r : Rs} (h : RsOk r) (t : Int) (ht : t ≤ 1073741824) : RsOk (r.meets t) := by
  unfold Rs.meets
  split
  · have h1 := h.lo
    exact ⟨h.log.up (by simp only; omega), by simp only; omega, ht, by simp, by simp, h.idn, h.five, .inl rfl, h.com, h.vts, fun hh => by simp at hh, fun hh => by simp at hh⟩
  · exact h
theorem meets_term (r : Rs) (t : Int) : t ≤ (r.meets t).js.term ∧ r.js.term ≤ (r.meets t).js.term := by
  unfold Rs.meets
  split
  · simp only; omega
  · omega
theorem meets_eq (r : Rs) (t : Int) : (r.meets t).id = r.id ∧ (r.meets t).n = r.n ∧ (r.meets t).js.log = r.js.log ∧ (r.meets t).commit = r.commit := by
  unfold Rs.meets
  split <;> exact ⟨rfl, rfl, rfl, rfl⟩

/-- What is proper. -/
structure Proper (r : Rs) (m : Ms) : Prop where
  to_ : m.to_ = r.id
  ne : m.from_ ≠ r.id
  f0 : 0 ≤ m.from_
  f1 : m.from_ < r.n
  t0 : 1 ≤ m.term
  t1 : m.term ≤ 1073741824
  i0 : 0 ≤ m.index
  i1 : m.index ≤ 4096
  p0 : 0 ≤ m.prev
  p1 : m.prev ≤ m.term
  c0 : 0 ≤ m.commit
  c1 : m.commit ≤ 4096
  k : m.kind = 1 ∨ m.kind = 2 ∨ m.kind = 3 ∨ m.kind = 4
  a : m.kind = 3 → properA m = true
theorem Rs.proper_iff {r : Rs} {m : Ms} : r.proper m = true ↔ Proper r m := by
  unfold Rs.proper Rs.properB
  simp only [Bool.and_eq_true, Bool.or_eq_true, decide_eq_true_eq]
  constructor
  · rintro ⟨⟨h1, h2, h3, h4, h5, h6, h7, h8, h9, h10, h11, h12⟩, h13⟩
    refine ⟨h1, h2, h3, h4, h5, h6, h7, h8, h9, h10, h11, h12, by omega, fun hk => ?_⟩
    rcases h13 with h | h
    · omega
    · exact h.2
  · intro h
    refine ⟨⟨h.to_, h.ne, h.f0, h.f1, h.t0, h.t1, h.i0, h.i1, h.p0, h.p1, h.c0, h.c1⟩, ?_⟩
    by_cases hk : m.kind = 3
    · exact .inr ⟨hk, h.a hk⟩
    · have := h.k
      exact .inl (by omega)
theorem Proper.of_meets {r : Rs} {m : Ms} (h : Proper r m) (t : Int) : Proper (r.meets t) m := by
  obtain ⟨h1, h2, -⟩ := meets_eq r t
  exact ⟨by rw [h1]; exact h.to_, by rw [h1]; exact h.ne, h.f0, by rw [h2]; exact h.f1, h.t0, h.t1, h.i0, h.i1, h.p0, h.p1, h.c0, h.c1, h.k, h.a⟩

theorem properA_iff {m : Ms} (h : properA m = true) : (m.prev = 0 ↔ m.index = 0) ∧ m.index + m.es.length ≤ 4096 ∧ chainB m.term (max 1 m.prev) m.es = true := by
  unfold properA at h
  simp only [Bool.and_eq_true, decide_eq_true_eq, beq_iff_eq] at h
  refine ⟨?_, h.2.1, h.2.2⟩
  have h1 := h.1
  constructor
  · intro h2
    rw [h2] at h1
    simp at h1
    omega
  · intro h2
    rw [h2] at h1
    simp at h1
    omega

theorem RsOk.onVote {r : Rs} {m : Ms} (h : RsOk r) (hm : Proper r m) : RsOk (r.onVote m).1 := by
  unfold Rs.onVote
  simp only
  split
  · rename_i hg
    unfold Rs.grants at hg
    simp only [decide_eq_true_eq] at hg
    have h1 := hg.1
    have := h.five
    have := hm.f0
    have := hm.f1
    exact ⟨by rw [h1]; exact h.log, by simp only; have := hm.t0; omega, hm.t1, by simp only; omega, by simp only; omega, h.idn, h.five, h.role, h.com, h.vts, h.nxt, h.mts⟩
  · exact h
theorem RsOk.voted {r : Rs} {m : Ms} (h : RsOk r) (hm : Proper r m) : RsOk { r with votes := r.votes ||| 2 ^ m.from_.toNat } := by
  refine ⟨h.log, h.lo, h.hi, h.vlo, h.vhi, h.idn, h.five, h.role, h.com, ?_, h.nxt, h.mts⟩
  have h1 := h.five
  have h2 := hm.f1
  have h3 := hm.f0
  have h4 : m.from_.toNat < 5 := by omega
  have h5 : (2 : Nat) ^ m.from_.toNat < 2 ^ 5 := Nat.pow_lt_pow_right (by omega) h4
  exact Nat.or_lt_two_pow (n := 5) h.vts h5
theorem RsOk.onVoted {r : Rs} {m : Ms} (h : RsOk r) (hm : Proper r m) : RsOk (r.onVoted m).1 := by
  unfold Rs.onVoted
  split
  · exact h
  · split
    · exact h.voted hm
    · exact (h.voted hm).lead
/-- The place up dst which the entries are there already, and the log behind it. -/
theorem take_log {r : Rs} {m : Ms} (h : RsOk r) (hm : Proper r m) (hk : m.kind = 3) (ht : m.term = r.js.term) (hf : r.fits m = true) :
    m.index.toNat + matchK r.js.log m.index.toNat m.es ≤ r.js.log.length ∧
    (matchK r.js.log m.index.toNat m.es < m.es.length → replaceS r.js (m.index.toNat + matchK r.js.log m.index.toNat m.es) (m.es.drop (matchK r.js.log m.index.toNat m.es)) =
      ⟨r.js.term, r.js.vote, r.js.log.take (m.index.toNat + matchK r.js.log m.index.toNat m.es) ++ m.es.drop (matchK r.js.log m.index.toNat m.es)⟩) := by
  obtain ⟨a1, a2, a3⟩ := properA_iff (hm.a hk)
  unfold Rs.fits at hf
  simp only [decide_eq_true_eq] at hf
  have hi0 := hm.i0
  generalize hK : matchK r.js.log m.index.toNat m.es = K at *
  generalize hi : m.index.toNat = i at *
  have hx : m.index = (i : Int) := by omega
  have hle : i + K ≤ r.js.log.length := by
    rcases K with _ | K
    · omega
    · obtain ⟨y, h1, h2⟩ := matchK_same r.js.log m.es i K (by omega)
      have h3 := (chainB_each _ _ a3 y (List.mem_of_getElem? h1)).2.1
      rcases Nat.lt_or_ge (i + K) r.js.log.length with h4 | h4
      · omega
      · rw [termAt_out h4] at h2
        omega
  refine ⟨hle, fun hlt => ?_⟩
  have hcut : (if i + K < r.js.log.length then (⟨r.js.term, r.js.vote, r.js.log.take (i + K)⟩ : Js) else r.js) = ⟨r.js.term, r.js.vote, r.js.log.take (i + K)⟩ := by
    split
    · rfl
    · rw [List.take_of_length_le (by omega)]
  unfold replaceS
  rw [hcut]
  have hlast : ∀ q, q = i + K → 0 < q → lastT (r.js.log.take q) = termAt r.js.log ((q - 1 : Nat) : Int) := by
    intro q hq hq0
    obtain ⟨x, hx⟩ : ∃ x, r.js.log[q - 1]? = some x := ⟨_, List.getElem?_eq_getElem (by omega)⟩
    unfold lastT
    rw [List.length_take, show (((min q r.js.log.length : Nat) : Int) - 1) = ((q - 1 : Nat) : Int) from by omega, termAt_at hx]
    exact termAt_at (by rw [List.getElem?_take, if_pos (by omega)]; exact hx)
  have hhi := h.hi
  rcases chainB_drop m.es (max 1 m.prev) K a3 with ⟨rfl, g1⟩ | g1 | ⟨y, g1, g2, g3⟩
  · rw [ht] at g1
    refine addAll_all (low := max 1 m.prev) (m.es.drop 0) g1 (by omega) hhi ?_ (by simp only [List.length_take, List.length_drop]; omega)
    rcases Nat.eq_zero_or_pos i with rfl | hi1
    · simp [lastT, termAt]; omega
    · show lastT (r.js.log.take (i + 0)) ≤ _
      rw [hlast _ rfl (by omega)]
      rcases hf.2 with h1 | h1
      · omega
      · rw [show ((i + 0 - 1 : Nat) : Int) = m.index - 1 from by omega, h1]
        omega
  · omega
  · rw [ht] at g3
    have hy := (chainB_each _ _ a3 y (List.mem_of_getElem? g1)).2.1
    refine addAll_all (low := y.term) (m.es.drop K) g3 (by omega) hhi ?_ (by simp only [List.length_take, List.length_drop]; omega)
    show lastT (r.js.log.take (i + K)) ≤ _
    rw [hlast _ rfl (by omega)]
    obtain ⟨z, h1, h2⟩ := matchK_same r.js.log m.es i (K - 1) (by omega)
    rw [h1] at g1
    injection g1 with g1
    subst g1
    rw [show i + K - 1 = i + (K - 1) from by omega, h2]
    exact Int.le_refl _
theorem RsOk.onAppend {r : Rs} {m : Ms} (h : RsOk r) (hm : Proper r m) (hk : m.kind = 3) (ht : m.term ≤ r.js.term) (he : ∀ x ∈ m.es, x.e.ok) : RsOk (r.onAppend m).1 := by
  unfold Rs.onAppend
  have hfol : RsOk { r with role := 1 } := ⟨h.log, h.lo, h.hi, h.vlo, h.vhi, h.idn, h.five, .inl rfl, h.com, h.vts, fun hh => by simp at hh, fun hh => by simp at hh⟩
  split
  · exact h
  · split
    · exact h
    · split
      · exact hfol
      · rename_i h1 h2 h3
        have ht2 : m.term = r.js.term := by omega
        obtain ⟨k1, k2⟩ := take_log h hm hk ht2 (by simpa using h3)
        have hml := matchK_le r.js.log m.es m.index.toNat
        have hi0 := hm.i0
        obtain ⟨a1, a2, a3⟩ := properA_iff (hm.a hk)
        have hcom := h.com
        split
        · rename_i h4
          split
          · exact hfol
          · rename_i h5
            rw [k2 h4]
            have hlen : (r.js.log.take (m.index.toNat + matchK r.js.log m.index.toNat m.es) ++ m.es.drop (matchK r.js.log m.index.toNat m.es)).length = m.index.toNat + m.es.length := by
              simp only [List.length_append, List.length_take, List.length_drop]; omega
            have hlog := LogOk.addAll (s := if m.index.toNat + matchK r.js.log m.index.toNat m.es < r.js.log.length then (⟨r.js.term, r.js.vote, r.js.log.take (m.index.toNat + matchK r.js.log m.index.toNat m.es)⟩ : Js) else r.js) (m.es.drop (matchK r.js.log m.index.toNat m.es)) (by
              split
              · exact h.log.take _
              · exact h.log) (fun x hx => he x (List.mem_of_mem_drop hx))
            have hrep := k2 h4
            unfold replaceS at hrep
            rw [hrep] at hlog
            refine ⟨hlog, h.lo, h.hi, h.vlo, h.vhi, h.idn, h.five, .inl rfl, ?_, h.vts, fun hh => by simp at hh, fun hh => by simp at hh⟩
            simp only
            rw [hlen]
            omega
        · rename_i h4
          refine ⟨h.log, h.lo, h.hi, h.vlo, h.vhi, h.idn, h.five, .inl rfl, ?_, h.vts, fun hh => by simp at hh, fun hh => by simp at hh⟩
          simp only
          omega
theorem RsOk.onStored {r : Rs} {m : Ms} (h : RsOk r) : RsOk (r.onStored m).1 := by
  unfold Rs.onStored
  split
  · exact h
  · rename_i h0
    have hr : r.role = 3 := by
      apply Classical.byContradiction
      intro hh
      exact h0 (.inl hh)
    split
    · refine ⟨h.log, h.lo, h.hi, h.vlo, h.vhi, h.idn, h.five, h.role, h.com, h.vts, fun hh i => ?_, h.mts⟩
      simp only [setAt]
      have := h.nxt hr i
      have := h.nxt hr m.from_.toNat
      split <;> omega
    · split
      · rename_i h1 h2
        refine RsOk.advance ⟨h.log, h.lo, h.hi, h.vlo, h.vhi, h.idn, h.five, h.role, h.com, h.vts, fun hh i => ?_, fun hh i => ?_⟩
        · simp only [setAt]
          have := h.nxt hr i
          have := h.mts hr m.from_.toNat
          split <;> omega
        · simp only [setAt]
          have := h.mts hr i
          have := h.mts hr m.from_.toNat
          split <;> omega
      · exact h
theorem RsOk.takes {r : Rs} {m : Ms} (h : RsOk r) (hm : Proper r m) (ht : m.term ≤ r.js.term) (he : ∀ x ∈ m.es, x.e.ok) : RsOk (r.takes m).1 := by
  unfold Rs.takes
  split
  · exact h.onVote hm
  · split
    · exact h.onVoted hm
    · split
      · rename_i hk
        exact h.onAppend hm hk ht he
      · exact h.onStored
theorem RsOk.handle {r : Rs} {m : Ms} (h : RsOk r) (he : ∀ x ∈ m.es, x.e.ok) : RsOk (r.handle m).1 := by
  unfold Rs.handle
  split
  · exact h
  · rename_i hp
    have hm : Proper r m := Rs.proper_iff.1 (by simpa using hp)
    exact (h.meets m.term hm.t1).takes (hm.of_meets m.term) (meets_term r m.term).1 he
theorem RsOk.crash {r : Rs} (h : RsOk r) : RsOk r.crash :=
  ⟨h.log, h.lo, h.hi, h.vlo, h.vhi, h.idn, h.five, .inl rfl, Nat.zero_le _, h.vts, fun hh => by simp [Rs.crash] at hh, fun hh => by simp [Rs.crash] at hh⟩
theorem RsOk.campaign {r : Rs} (h : RsOk r) : RsOk r.campaign.1 := by
  unfold Rs.campaign
  have hid := h.idn
  have h5 := h.five
  have hlo := h.lo
  split
  · exact h
  · rename_i h0
    have hb : RsOk { r with js := ⟨r.js.term + 1, r.id, r.js.log⟩, role := 2, votes := 2 ^ r.id } :=
      ⟨h.log.up (by simp only; omega), by simp only; omega, by simp only; omega, by simp only; omega, by simp only; omega, h.idn, h.five, .inr (.inl rfl), h.com, by
        have : (2 : Nat) ^ r.id < 2 ^ 5 := Nat.pow_lt_pow_right (by omega) (by omega)
        simpa using this, fun hh => by simp at hh, fun hh => by simp at hh⟩
    split
    · exact hb.lead
    · exact hb
theorem RsOk.proposed {r : Rs} (h : RsOk r) (e : En) (he : e.ok) : RsOk (r.proposed e) := by
  unfold Rs.proposed
  apply RsOk.advance
  have hl := h.log.add r.js.term e he
  obtain ⟨t1, t2⟩ := addS_tv r.js r.js.term e
  have hlen : r.js.log.length ≤ (addS r.js r.js.term e).log.length := by
    by_cases h0 : addX r.js r.js.term e = 0
    · rw [addS_yes h0]; simp
    · rw [addS_no h0]; exact Nat.le_refl _
  refine ⟨hl, ?_, ?_, ?_, ?_, h.idn, h.five, h.role, Nat.le_trans h.com hlen, h.vts, fun hh i => Nat.le_trans (h.nxt hh i) hlen, fun hh i => Nat.le_trans (h.mts hh i) hlen⟩
  · simp only; rw [t1]; exact h.lo
  · simp only; rw [t1]; exact h.hi
  · simp only; rw [t2]; exact h.vlo
  · simp only; rw [t2]; exact h.vhi
theorem RsOk.propose {r : Rs} (h : RsOk r) (e : En) (he : e.ok) : RsOk (r.propose e).1 := by
  unfold Rs.propose
  split
  · exact h.proposed e he
  · exact h
end Go.Proofs.Ytneeajegegmigaa
