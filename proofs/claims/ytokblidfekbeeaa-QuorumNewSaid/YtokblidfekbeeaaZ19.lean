/-
  Several texts in one: Raft, RaftB, RaftC, RaftD, QuoP, QuoB.
-/
import Derived.Test.YtokblidfekbeeaaZ18
/- The plain law of a quorum: what the terms, the votes and the logs of its replicas have in common, and why that stays so. -/
namespace Go.Proofs.Ytokblidfekbeeaa
set_option linter.unusedVariables false

/-- How many of the first k are marked. -/
def cntB (b : Nat → Bool) : Nat → Nat
  | 0 => 0
  | k + 1 => cntB b k + if b k then 1 else 0
theorem cntB_and (a b : Nat → Bool) : ∀ n, cntB a n + cntB b n ≤ n + cntB (fun i => a i && b i) n := by
  intro n
  induction n with
  | zero => simp [cntB]
  | succ n ih =>
    simp only [cntB]
    by_cases ha : a n = true <;> by_cases hb : b n = true <;> simp [ha, hb] <;> omega
theorem cntB_pos {c : Nat → Bool} : ∀ {n}, 0 < cntB c n → ∃ i, i < n ∧ c i = true := by
  intro n
  induction n with
  | zero => intro h; simp [cntB] at h
  | succ n ih =>
    intro h
    simp only [cntB] at h
    by_cases hc : c n = true
    · exact ⟨n, by omega, hc⟩
    · rw [if_neg hc] at h
      obtain ⟨i, h1, h2⟩ := ih (by omega)
      exact ⟨i, by omega, h2⟩
theorem cntB_congr {a b : Nat → Bool} : ∀ {n}, (∀ i, i < n → a i = b i) → cntB a n = cntB b n := by
  intro n
  induction n with
  | zero => intro _; rfl
  | succ n ih =>
    intro h
    simp only [cntB]
    rw [ih fun i hi => h i (by omega), h n (by omega)]
/-- More than half of n have the property. -/
def Maj (n : Nat) (p : Nat → Prop) : Prop := ∃ b : Nat → Bool, (∀ i, i < n → b i = true → p i) ∧ n < 2 * cntB b n
theorem Maj.mono {n : Nat} {p q : Nat → Prop} (h : Maj n p) (hpq : ∀ i, i < n → p i → q i) : Maj n q := by
  obtain ⟨b, h1, h2⟩ := h
  exact ⟨b, fun i hi hb => hpq i hi (h1 i hi hb), h2⟩
theorem Maj.meet {n : Nat} {p q : Nat → Prop} (h : Maj n p) (k : Maj n q) : ∃ i, i < n ∧ p i ∧ q i := by
  obtain ⟨a, h1, h2⟩ := h
  obtain ⟨b, k1, k2⟩ := k
  have := cntB_and a b n
  obtain ⟨i, hi, hc⟩ := cntB_pos (c := fun i => a i && b i) (n := n) (by omega)
  simp only [Bool.and_eq_true] at hc
  exact ⟨i, hi, h1 i hi hc.1, k1 i hi hc.2⟩

/-- The history of a quorum: who led a term, the log of a term's leader, how much of it a replica has stored, who voted for whom, and with which log. -/
structure Gh where
  el : Int → Option Nat
  gl : Int → List Lg
  acc : Nat → Int → Nat
  vt : Nat → Int → Option Nat
  vl : Nat → Int → List Lg
/-- A log agrees with those of the leaders. -/
def Pref (gl : Int → List Lg) (l : List Lg) : Prop := ∀ (i : Nat) (x : Lg), l[i]? = some x → l.take (i + 1) <+: gl x.term
def Better (a b : List Lg) : Prop := lastT b < lastT a ∨ lastT a = lastT b ∧ b.length ≤ a.length
def Mark (g : Gh) (T : Int) (L : Nat) : Prop := 1 ≤ L ∧ L ≤ (g.gl T).length ∧ termAt (g.gl T) ((L - 1 : Nat) : Int) = T
def Poss (n : Nat) (rs : Nat → Rs) (g : Gh) (T : Int) (L : Nat) : Prop := Maj n fun q => L ≤ g.acc q T ∨ (rs q).js.term ≤ T
def Com (n : Nat) (g : Gh) (T : Int) (L : Nat) : Prop := Mark g T L ∧ Maj n fun q => L ≤ g.acc q T
def Cmt (n : Nat) (g : Gh) (l : List Lg) : Prop := l = [] ∨ ∃ T L, Com n g T L ∧ l <+: (g.gl T).take L
structure Inv (n : Nat) (rs : Nat → Rs) (g : Gh) : Prop where
  ok : ∀ q, q < n → RsOk (rs q) ∧ (rs q).id = q ∧ (rs q).n = n
  v1 : ∀ q, q < n → g.vt q (rs q).js.term = if (rs q).js.vote = -1 then none else some (rs q).js.vote.toNat
  v2 : ∀ q, q < n → ∀ T, (rs q).js.term < T → g.vt q T = none
  v3 : ∀ c, c < n → (rs c).role = 2 → (∀ q, q < n → (rs c).votes.testBit q = true → g.vt q (rs c).js.term = some c) ∧ g.vt c (rs c).js.term = some c ∧ g.vl c (rs c).js.term = (rs c).js.log ∧ g.el (rs c).js.term ≠ some c
  v4 : ∀ T c, g.el T = some c → c < n ∧ Maj n fun q => g.vt q T = some c
  v5 : ∀ c, c < n → (rs c).role = 3 → g.el (rs c).js.term = some c ∧ (rs c).js.log = g.gl (rs c).js.term ∧ ∀ i, i < n → i ≠ c → (rs c).mtch i ≤ g.acc i (rs c).js.term
  v8 : ∀ q T c, q < n → g.vt q T = some c → c < n ∧ g.vt c T = some c ∧ (∀ x ∈ g.vl c T, x.term < T) ∧ Better (g.vl c T) (g.vl q T)
  l1 : ∀ q, q < n → Pref g.gl (rs q).js.log
  l2 : ∀ T, Pref g.gl (g.gl T) ∧ LogOk (g.gl T) T
  l3 : ∀ q T, q < n → g.vt q T ≠ none → Pref g.gl (g.vl q T) ∧ LogOk (g.vl q T) T
  a1 : ∀ q T, g.acc q T ≤ (g.gl T).length
  a2 : ∀ q, q < n → ∀ T, 0 < g.acc q T → T ≤ (rs q).js.term
  a3 : ∀ q, q < n → (g.gl (rs q).js.term).take (g.acc q (rs q).js.term) <+: (rs q).js.log
  a4 : ∀ T c, g.el T = some c → g.acc c T = (g.gl T).length
  a5 : ∀ T, g.el T = none → g.gl T = []
  i5 : ∀ T T' L, T < T' → g.el T' ≠ none → Mark g T L → Poss n rs g T L → (g.gl T).take L <+: g.gl T'
  i6 : ∀ q, q < n → ∀ T L, Mark g T L → Poss n rs g T L → L ≤ g.acc q T → (g.gl T).take L <+: (rs q).js.log
  i8 : ∀ q, q < n → ∀ T T' L, T < T' → g.vt q T' ≠ none → Mark g T L → Poss n rs g T L → L ≤ g.acc q T → (g.gl T).take L <+: g.vl q T'
  c9 : ∀ q, q < n → Cmt n g ((rs q).js.log.take (rs q).commit)
/-- A history goes on. -/
structure Ext (g g' : Gh) : Prop where
  el : ∀ T c, g.el T = some c → g'.el T = some c
  gl : ∀ T, g.gl T <+: g'.gl T
  acc : ∀ q T, g.acc q T ≤ g'.acc q T
  vt : ∀ q T c, g.vt q T = some c → g'.vt q T = some c ∧ g'.vl q T = g.vl q T
/-- The messages that there are. -/
structure MsgOk (n : Nat) (g : Gh) (m : Ms) : Prop where
  okE : ∀ x ∈ m.es, x.e.ok
  vote : m.kind = 1 → ∃ c : Nat, c < n ∧ m.from_ = c ∧ g.vt c m.term = some c ∧ m.index = (g.vl c m.term).length ∧ m.prev = lastT (g.vl c m.term)
  voted : m.kind = 2 → m.ok = true → ∃ q c : Nat, m.from_ = q ∧ m.to_ = c ∧ q < n ∧ g.vt q m.term = some c
  app : m.kind = 3 → ∃ c i k : Nat, m.from_ = c ∧ m.index = i ∧ m.commit = k ∧ g.el m.term = some c ∧ i + m.es.length ≤ (g.gl m.term).length ∧ m.es = ((g.gl m.term).drop i).take m.es.length ∧ m.prev = termAt (g.gl m.term) ((i : Int) - 1) ∧ k ≤ (g.gl m.term).length ∧ Cmt n g ((g.gl m.term).take k)
  stored : m.kind = 4 → m.ok = true → ∃ q i : Nat, m.from_ = q ∧ m.index = i ∧ q < n ∧ i ≤ g.acc q m.term

theorem pre_get {α : Type} {a b : List α} (h : a <+: b) {i : Nat} (hi : i < a.length) : b[i]? = a[i]? := by
  obtain ⟨c, rfl⟩ := h
  rw [List.getElem?_append_left hi]
theorem pre_take {α : Type} {a b : List α} (h : a <+: b) {k : Nat} (hk : k ≤ a.length) : b.take k = a.take k := by
  obtain ⟨c, rfl⟩ := h
  rw [List.take_append_of_le_length hk]
theorem pre_both {α : Type} {a b c : List α} (h : a <+: c) (k : b <+: c) (hl : a.length ≤ b.length) : a <+: b := List.prefix_of_prefix_length_le h k hl
theorem pre_same {α : Type} {a b c : List α} (h : a <+: c) (k : b <+: c) (hl : a.length = b.length) : a = b :=
  (pre_both h k (by omega)).eq_of_length hl
theorem take_pre {α : Type} (a : List α) (k : Nat) : a.take k <+: a := List.take_prefix k a
theorem take_take_pre {α : Type} (a : List α) {i k : Nat} (h : i ≤ k) : a.take i <+: a.take k := by
  rw [show a.take i = (a.take k).take i from by rw [List.take_take, Nat.min_eq_left h]]
  exact take_pre _ _
theorem termAt_pre {a b : List Lg} (h : a <+: b) {i : Nat} (hi : i < a.length) : termAt b (i : Int) = termAt a (i : Int) := by
  obtain ⟨x, hx⟩ : ∃ x, a[i]? = some x := ⟨_, List.getElem?_eq_getElem hi⟩
  rw [termAt_at hx, termAt_at (x := x) (by rw [pre_get h hi]; exact hx)]
theorem lastT_at {l : List Lg} (h : 0 < l.length) : lastT l = termAt l ((l.length - 1 : Nat) : Int) := by
  unfold lastT
  congr 1
  omega

section
variable {n : Nat} {rs : Nat → Rs} {g g' : Gh}
theorem Pref.mono {gl gl' : Int → List Lg} {l : List Lg} (h : Pref gl l) (hg : ∀ T, gl T <+: gl' T) : Pref gl' l := fun i x hx => (h i x hx).trans (hg x.term)
theorem Pref.take {gl : Int → List Lg} {l : List Lg} (h : Pref gl l) (k : Nat) : Pref gl (l.take k) := by
  intro i x hx
  rw [List.getElem?_take] at hx
  split at hx
  · rename_i hi
    rw [List.take_take, Nat.min_eq_left (by omega)]
    exact h i x hx
  · cases hx
theorem Pref.agree {gl : Int → List Lg} {a b : List Lg} (h : Pref gl a) (k : Pref gl b) {i : Nat} {x y : Lg} (hx : a[i]? = some x) (hy : b[i]? = some y) (he : x.term = y.term) : a.take (i + 1) = b.take (i + 1) := by
  have h1 := h i x hx
  have h2 := k i y hy
  rw [he] at h1
  have h3 := (List.getElem?_eq_some_iff.1 hx).1
  have h4 := (List.getElem?_eq_some_iff.1 hy).1
  exact pre_same h1 h2 (by rw [List.length_take, List.length_take]; omega)
theorem Ext.refl (g : Gh) : Ext g g := ⟨fun _ _ h => h, fun _ => List.prefix_refl _, fun _ _ => Nat.le_refl _, fun _ _ _ h => ⟨h, rfl⟩⟩
theorem Ext.trans {g1 g2 g3 : Gh} (h : Ext g1 g2) (k : Ext g2 g3) : Ext g1 g3 :=
  ⟨fun T c e => k.el T c (h.el T c e), fun T => (h.gl T).trans (k.gl T), fun q T => Nat.le_trans (h.acc q T) (k.acc q T), fun q T c e => by
    obtain ⟨e1, e2⟩ := h.vt q T c e
    obtain ⟨e3, e4⟩ := k.vt q T c e1
    exact ⟨e3, e4.trans e2⟩⟩
theorem Mark.ext (h : Ext g g') {T : Int} {L : Nat} (hm : Mark g T L) : Mark g' T L := by
  obtain ⟨h1, h2, h3⟩ := hm
  refine ⟨h1, Nat.le_trans h2 (h.gl T).length_le, ?_⟩
  rw [termAt_pre (h.gl T) (by omega)]
  exact h3
theorem Com.ext (h : Ext g g') {T : Int} {L : Nat} (hm : Com n g T L) : Com n g' T L :=
  ⟨hm.1.ext h, hm.2.mono fun i _ hi => Nat.le_trans hi (h.acc i T)⟩
theorem Cmt.ext (h : Ext g g') {l : List Lg} (hc : Cmt n g l) : Cmt n g' l := by
  rcases hc with h0 | ⟨T, L, h1, h2⟩
  · exact .inl h0
  · refine .inr ⟨T, L, h1.ext h, ?_⟩
    rw [pre_take (h.gl T) h1.1.2.1]
    exact h2
theorem Cmt.pre {a b : List Lg} (hc : Cmt n g b) (h : a <+: b) : Cmt n g a := by
  rcases hc with h0 | ⟨T, L, h1, h2⟩
  · subst h0
    exact .inl (List.eq_nil_of_length_eq_zero (by have := h.length_le; simpa using this))
  · exact .inr ⟨T, L, h1, h.trans h2⟩
theorem MsgOk.ext (h : Ext g g') {m : Ms} (hm : MsgOk n g m) : MsgOk n g' m := by
  refine ⟨hm.okE, fun hk => ?_, fun hk ho => ?_, fun hk => ?_, fun hk ho => ?_⟩
  · obtain ⟨c, h1, h2, h3, h4, h5⟩ := hm.vote hk
    obtain ⟨e1, e2⟩ := h.vt _ _ _ h3
    exact ⟨c, h1, h2, e1, by rw [e2]; exact h4, by rw [e2]; exact h5⟩
  · obtain ⟨q, c, h1, h2, h3, h4⟩ := hm.voted hk ho
    exact ⟨q, c, h1, h2, h3, (h.vt _ _ _ h4).1⟩
  · obtain ⟨c, i, k, h1, h2, h3, h4, h5, h6, h7, h8, h9⟩ := hm.app hk
    have hp := h.gl m.term
    have hle := hp.length_le
    refine ⟨c, i, k, h1, h2, h3, h.el _ _ h4, by omega, ?_, ?_, by omega, ?_⟩
    · obtain ⟨z, hz⟩ := hp
      rw [← hz, List.drop_append_of_le_length (by omega), List.take_append_of_le_length (by rw [List.length_drop]; omega)]
      exact h6
    · rw [h7]
      rcases Nat.eq_zero_or_pos i with rfl | hi
      · rw [termAt_neg (by omega), termAt_neg (by omega)]
      · rw [show ((i : Int) - 1) = ((i - 1 : Nat) : Int) from by omega, termAt_pre hp (by omega)]
    · rw [pre_take hp h8]
      exact h9.ext h
  · obtain ⟨q, i, h1, h2, h3, h4⟩ := hm.stored hk ho
    exact ⟨q, i, h1, h2, h3, Nat.le_trans h4 (h.acc q m.term)⟩

/-- One replica has turned. -/
def upd (rs : Nat → Rs) (q : Nat) (r : Rs) : Nat → Rs := fun i => if i = q then r else rs i
theorem upd_self (rs : Nat → Rs) (q : Nat) (r : Rs) : upd rs q r q = r := if_pos rfl
theorem upd_ne {rs : Nat → Rs} {q i : Nat} {r : Rs} (h : i ≠ q) : upd rs q r i = rs i := if_neg h
theorem upd_upd (rs : Nat → Rs) (q : Nat) (r r' : Rs) : upd (upd rs q r) q r' = upd rs q r' := by
  funext i
  unfold upd
  split <;> rfl
theorem upd_id (rs : Nat → Rs) (q : Nat) : upd rs q (rs q) = rs := by
  funext i
  unfold upd
  split
  · rename_i h; rw [h]
  · rfl

/-- Nothing that lasts has turned. -/
theorem Inv.set (h : Inv n rs g) {q : Nat} (hq : q < n) {r : Rs} (hok : RsOk r) (hid : r.id = (rs q).id) (hn : r.n = (rs q).n) (hjs : r.js = (rs q).js)
    (h2 : r.role = 2 → (∀ i, i < n → r.votes.testBit i = true → g.vt i r.js.term = some q) ∧ g.vt q r.js.term = some q ∧ g.vl q r.js.term = r.js.log ∧ g.el r.js.term ≠ some q)
    (h3 : r.role = 3 → g.el r.js.term = some q ∧ r.js.log = g.gl r.js.term ∧ ∀ i, i < n → i ≠ q → r.mtch i ≤ g.acc i r.js.term)
    (hc : Cmt n g (r.js.log.take r.commit)) : Inv n (upd rs q r) g := by
  have hu : ∀ i, (upd rs q r i).js = (rs i).js := fun i => by
    unfold upd
    split
    · rename_i e; rw [e]; exact hjs
    · rfl
  have hposs : ∀ T L, Poss n (upd rs q r) g T L → Poss n rs g T L := fun T L hp => hp.mono fun i _ hi => by rw [hu] at hi; exact hi
  refine ⟨fun i hi => ?_, fun i hi => by rw [hu]; exact h.v1 i hi, fun i hi => by rw [hu]; exact h.v2 i hi, fun i hi hr => ?_, h.v4, fun i hi hr => ?_, h.v8, fun i hi => by rw [hu]; exact h.l1 i hi, h.l2, h.l3, h.a1, fun i hi => by rw [hu]; exact h.a2 i hi, fun i hi => by rw [hu]; exact h.a3 i hi, h.a4, h.a5,
    fun T T' L a b c d => h.i5 T T' L a b c (hposs T L d), fun i hi T L a b c => by rw [hu]; exact h.i6 i hi T L a (hposs T L b) c, fun i hi T T' L a b c d e => h.i8 i hi T T' L a b c (hposs T L d) e, fun i hi => ?_⟩
  · by_cases e : i = q
    · subst e; rw [upd_self, hid, hn]; exact ⟨hok, (h.ok i hi).2⟩
    · rw [upd_ne e]; exact h.ok i hi
  · by_cases e : i = q
    · subst e; rw [upd_self] at hr ⊢; exact h2 hr
    · rw [upd_ne e] at hr ⊢; exact h.v3 i hi hr
  · by_cases e : i = q
    · subst e; rw [upd_self] at hr ⊢; exact h3 hr
    · rw [upd_ne e] at hr ⊢; exact h.v5 i hi hr
  · by_cases e : i = q
    · subst e; rw [upd_self]; exact hc
    · rw [upd_ne e]; exact h.c9 i hi

/-- The term of a replica rises; it has no vote, and follows. -/
theorem Inv.bump (h : Inv n rs g) {q : Nat} (hq : q < n) (t : Int) (ht : (rs q).js.term < t) (ht2 : t ≤ 1073741824) :
    Inv n (upd rs q { rs q with js := ⟨t, -1, (rs q).js.log⟩, role := 1 }) g := by
  have hok : RsOk ((rs q).meets t) := (h.ok q hq).1.meets t ht2
  unfold Rs.meets at hok
  rw [if_pos ht] at hok
  have hT : ∀ i, (rs i).js.term ≤ (upd rs q { rs q with js := ⟨t, -1, (rs q).js.log⟩, role := 1 } i).js.term := fun i => by
    unfold upd
    split
    · rename_i e; subst e; simp only; omega
    · exact Int.le_refl _
  have hL : ∀ i, (upd rs q { rs q with js := ⟨t, -1, (rs q).js.log⟩, role := 1 } i).js.log = (rs i).js.log := fun i => by
    unfold upd
    split
    · rename_i e; subst e; rfl
    · rfl
  have hposs : ∀ T L, Poss n (upd rs q { rs q with js := ⟨t, -1, (rs q).js.log⟩, role := 1 }) g T L → Poss n rs g T L := fun T L hp => hp.mono fun i _ hi => by
    rcases hi with hi | hi
    · exact .inl hi
    · exact .inr (Int.le_trans (hT i) hi)
  refine ⟨fun i hi => ?_, fun i hi => ?_, fun i hi T hT2 => h.v2 i hi T (Int.lt_of_le_of_lt (hT i) hT2), fun i hi hr => ?_, h.v4, fun i hi hr => ?_, h.v8, fun i hi => by rw [hL]; exact h.l1 i hi, h.l2, h.l3, h.a1, fun i hi T ha => Int.le_trans (h.a2 i hi T ha) (hT i), fun i hi => ?_, h.a4, h.a5,
    fun T T' L a b c d => h.i5 T T' L a b c (hposs T L d), fun i hi T L a b c => by rw [hL]; exact h.i6 i hi T L a (hposs T L b) c, fun i hi T T' L a b c d e => h.i8 i hi T T' L a b c (hposs T L d) e, fun i hi => ?_⟩
  · by_cases e : i = q
    · subst e; rw [upd_self]; exact ⟨hok, (h.ok i hi).2⟩
    · rw [upd_ne e]; exact h.ok i hi
  · by_cases e : i = q
    · subst e; rw [upd_self]; exact h.v2 i hi t ht
    · rw [upd_ne e]; exact h.v1 i hi
  · by_cases e : i = q
    · subst e; rw [upd_self] at hr; simp at hr
    · rw [upd_ne e] at hr ⊢; exact h.v3 i hi hr
  · by_cases e : i = q
    · subst e; rw [upd_self] at hr; simp at hr
    · rw [upd_ne e] at hr ⊢; exact h.v5 i hi hr
  · by_cases e : i = q
    · subst e
      rw [upd_self]
      have : g.acc i t = 0 := by
        rcases Nat.eq_zero_or_pos (g.acc i t) with h0 | h0
        · exact h0
        · have := h.a2 i hi t h0; omega
      simp only
      rw [this, List.take_zero]
      exact List.nil_prefix
    · rw [upd_ne e]; exact h.a3 i hi
  · by_cases e : i = q
    · subst e; rw [upd_self]; exact h.c9 i hi
    · rw [upd_ne e]; exact h.c9 i hi

/-- A replica without a vote votes. -/
theorem Inv.votes (h : Inv n rs g) {q : Nat} (hq : q < n) (c : Nat) (hc : c < n) (hv : (rs q).js.vote = -1)
    (hcand : (c ≠ q ∧ g.vt c (rs q).js.term = some c ∧ Better (g.vl c (rs q).js.term) (rs q).js.log) ∨ (c = q ∧ ∀ x ∈ (rs q).js.log, x.term < (rs q).js.term)) :
    ∃ g', Inv n (upd rs q { rs q with js := ⟨(rs q).js.term, c, (rs q).js.log⟩ }) g' ∧ Ext g g' ∧ g'.vt q (rs q).js.term = some c ∧ g'.vl q (rs q).js.term = (rs q).js.log ∧ g'.el = g.el := by
  obtain ⟨ok0, id0, n0⟩ := h.ok q hq
  have hT0 : g.vt q (rs q).js.term = none := by rw [h.v1 q hq, if_pos hv]
  let g' : Gh := { g with vt := fun i T => if i = q ∧ T = (rs q).js.term then some c else g.vt i T, vl := fun i T => if i = q ∧ T = (rs q).js.term then (rs q).js.log else g.vl i T }
  have hvt : ∀ i T, ¬ (i = q ∧ T = (rs q).js.term) → g'.vt i T = g.vt i T ∧ g'.vl i T = g.vl i T := fun i T hn => ⟨if_neg hn, if_neg hn⟩
  have hvq : g'.vt q (rs q).js.term = some c ∧ g'.vl q (rs q).js.term = (rs q).js.log := ⟨if_pos ⟨rfl, rfl⟩, if_pos ⟨rfl, rfl⟩⟩
  have hst : ∀ i T d, g.vt i T = some d → g'.vt i T = some d ∧ g'.vl i T = g.vl i T := fun i T d hd => by
    have hn : ¬ (i = q ∧ T = (rs q).js.term) := by
      rintro ⟨rfl, rfl⟩
      rw [hT0] at hd
      cases hd
    rw [(hvt i T hn).1, (hvt i T hn).2]
    exact ⟨hd, rfl⟩
  have hext : Ext g g' := ⟨fun _ _ e => e, fun _ => List.prefix_refl _, fun _ _ => Nat.le_refl _, hst⟩
  have hT : ∀ i, (upd rs q { rs q with js := ⟨(rs q).js.term, c, (rs q).js.log⟩ } i).js.term = (rs i).js.term ∧ (upd rs q { rs q with js := ⟨(rs q).js.term, c, (rs q).js.log⟩ } i).js.log = (rs i).js.log ∧ (upd rs q { rs q with js := ⟨(rs q).js.term, c, (rs q).js.log⟩ } i).role = (rs i).role ∧ (upd rs q { rs q with js := ⟨(rs q).js.term, c, (rs q).js.log⟩ } i).votes = (rs i).votes ∧ (upd rs q { rs q with js := ⟨(rs q).js.term, c, (rs q).js.log⟩ } i).mtch = (rs i).mtch ∧ (upd rs q { rs q with js := ⟨(rs q).js.term, c, (rs q).js.log⟩ } i).commit = (rs i).commit := fun i => by
    unfold upd
    split
    · rename_i e; subst e; exact ⟨rfl, rfl, rfl, rfl, rfl, rfl⟩
    · exact ⟨rfl, rfl, rfl, rfl, rfl, rfl⟩
  have hposs : ∀ T L, Poss n (upd rs q { rs q with js := ⟨(rs q).js.term, c, (rs q).js.log⟩ }) g' T L → Poss n rs g T L := fun T L hp => hp.mono fun i _ hi => by rw [(hT i).1] at hi; exact hi
  refine ⟨g', ⟨fun i hi => ?_, fun i hi => ?_, fun i hi T hT2 => ?_, fun i hi hr => ?_, fun T d hd => ?_, fun i hi hr => ?_, fun i T d hi hd => ?_, fun i hi => by rw [(hT i).2.1]; exact h.l1 i hi, h.l2, fun i T hi hd => ?_, h.a1, fun i hi => by rw [(hT i).1]; exact h.a2 i hi, fun i hi => by rw [(hT i).1, (hT i).2.1]; exact h.a3 i hi, h.a4, h.a5,
    fun T T' L a b c d => h.i5 T T' L a b c (hposs T L d), fun i hi T L a b c => by rw [(hT i).2.1]; exact h.i6 i hi T L a (hposs T L b) c, fun i hi T T' L a b c d e => ?_, fun i hi => ?_⟩, hext, hvq.1, hvq.2, rfl⟩
  · by_cases e : i = q
    · subst e
      rw [upd_self]
      have h5 := ok0.five
      exact ⟨⟨ok0.log, ok0.lo, ok0.hi, by simp only; omega, by simp only; omega, ok0.idn, ok0.five, ok0.role, ok0.com, ok0.vts, ok0.nxt, ok0.mts⟩, id0, n0⟩
    · rw [upd_ne e]; exact h.ok i hi
  · by_cases e : i = q
    · subst e
      rw [upd_self]
      simp only
      rw [hvq.1, if_neg (by omega), Int.toNat_natCast]
    · rw [upd_ne e, (hvt i _ (fun hh => e hh.1)).1]; exact h.v1 i hi
  · rw [(hT i).1] at hT2
    by_cases e : i = q
    · subst e
      rw [(hvt i T (fun hh => by have := hh.2; omega)).1]
      exact h.v2 i hi T hT2
    · rw [(hvt i T (fun hh => e hh.1)).1]
      exact h.v2 i hi T hT2
  · rw [(hT i).2.2.1] at hr
    rw [(hT i).1, (hT i).2.1, (hT i).2.2.2.1]
    obtain ⟨k1, k2, k3, k4⟩ := h.v3 i hi hr
    obtain ⟨e1, e2⟩ := hst _ _ _ k2
    exact ⟨fun j hj hb => (hst _ _ _ (k1 j hj hb)).1, e1, by rw [e2]; exact k3, k4⟩
  · obtain ⟨k1, k2⟩ := h.v4 T d hd
    exact ⟨k1, k2.mono fun i _ hi => (hst _ _ _ hi).1⟩
  · rw [(hT i).2.2.1] at hr
    rw [(hT i).1, (hT i).2.1, (hT i).2.2.2.2.1]
    exact h.v5 i hi hr
  · by_cases e : i = q ∧ T = (rs q).js.term
    · obtain ⟨rfl, rfl⟩ := e
      rw [hvq.1] at hd
      injection hd with hd
      subst hd
      rw [hvq.2]
      rcases hcand with ⟨h1, h2, h3⟩ | ⟨h1, h3⟩
      · obtain ⟨e1, e2⟩ := hst _ _ _ h2
        obtain ⟨-, -, k3, -⟩ := h.v8 _ _ _ hc h2
        refine ⟨hc, e1, ?_, ?_⟩
        · rw [e2]; exact k3
        · rw [e2]; exact h3
      · subst h1
        rw [hvq.2]
        exact ⟨hc, hvq.1, h3, .inr ⟨rfl, Nat.le_refl _⟩⟩
    · rw [(hvt i T e).1] at hd
      rw [(hvt i T e).2]
      obtain ⟨k1, k2, k3, k4⟩ := h.v8 i T d hi hd
      obtain ⟨e1, e2⟩ := hst _ _ _ k2
      rw [e2]
      exact ⟨k1, e1, k3, k4⟩
  · by_cases e : i = q ∧ T = (rs q).js.term
    · obtain ⟨rfl, rfl⟩ := e
      rw [hvq.2]
      exact ⟨h.l1 i hi, ok0.log⟩
    · rw [(hvt i T e).1] at hd
      rw [(hvt i T e).2]
      exact h.l3 i T hi hd
  · by_cases e2 : i = q ∧ T' = (rs q).js.term
    · obtain ⟨rfl, rfl⟩ := e2
      rw [hvq.2]
      exact h.i6 i hi T L c (hposs T L d) e
    · rw [(hvt i T' e2).1] at b
      rw [(hvt i T' e2).2]
      exact h.i8 i hi T T' L a b c (hposs T L d) e
  · rw [(hT i).2.1, (hT i).2.2.2.2.2]
    exact (h.c9 i hi).ext hext

/-- What a better log has. -/
theorem Inv.better (h : Inv n rs g) {T T' : Int} {L : Nat} {a b : List Lg} (hm : Mark g T L) (hp : Poss n rs g T L) (ha : Pref g.gl a) (hb : Pref g.gl b) (oa : LogOk a T') (ob : LogOk b T') (hlt : ∀ x ∈ a, x.term < T')
    (hbet : Better a b) (hx : (g.gl T).take L <+: b) : (g.gl T).take L <+: a := by
  obtain ⟨m1, m2, m3⟩ := hm
  have hXl : ((g.gl T).take L).length = L := by rw [List.length_take]; omega
  have hbl : L ≤ b.length := by have := hx.length_le; omega
  have hbT : termAt b ((L - 1 : Nat) : Int) = T := by
    rw [termAt_pre hx (i := L - 1) (by omega)]
    exact (termAt_pre (take_pre (g.gl T) L) (i := L - 1) (by omega)).symm.trans m3
  obtain ⟨y, hy⟩ : ∃ y, b[b.length - 1]? = some y := ⟨_, List.getElem?_eq_getElem (by omega)⟩
  have hly : lastT b = y.term := by rw [lastT_at (by omega), termAt_at hy]
  have hTy : T ≤ y.term := by
    have := ob.mono (i := L - 1) (j := b.length - 1) (by omega) (by omega)
    rw [hbT, termAt_at hy] at this
    exact this
  have hy1 := (ob.each y (List.mem_of_getElem? hy)).1
  have hal : 0 < a.length := by
    rcases Nat.eq_zero_or_pos a.length with h0 | h0
    · exfalso
      have : lastT a = 0 := by rw [List.eq_nil_of_length_eq_zero h0]; rfl
      rcases hbet with h1 | ⟨h1, h2⟩ <;> omega
    · exact h0
  obtain ⟨x, hxa⟩ : ∃ x, a[a.length - 1]? = some x := ⟨_, List.getElem?_eq_getElem (by omega)⟩
  have hlx : lastT a = x.term := by rw [lastT_at hal, termAt_at hxa]
  have pa := ha _ _ hxa
  have pb := hb _ _ hy
  rw [show a.length - 1 + 1 = a.length from by omega, List.take_length] at pa
  rw [show b.length - 1 + 1 = b.length from by omega, List.take_length] at pb
  unfold Better at hbet
  rw [hlx, hly] at hbet
  rcases hbet with h1 | ⟨h1, h2⟩
  · have hel : g.el x.term ≠ none := by
      intro h0
      have := pa.length_le
      rw [h.a5 _ h0, List.length_nil] at this
      omega
    have h3 := h.i5 T x.term L (by omega) hel ⟨m1, m2, m3⟩ hp
    have hlen : L ≤ a.length := by
      apply Classical.byContradiction
      intro hn
      have e1 : termAt (g.gl x.term) ((a.length - 1 : Nat) : Int) = x.term := by rw [termAt_pre pa (i := a.length - 1) (by omega), termAt_at hxa]
      have e2 : termAt (g.gl x.term) ((L - 1 : Nat) : Int) = T := by
        rw [termAt_pre h3 (i := L - 1) (by omega)]
        exact (termAt_pre (take_pre (g.gl T) L) (i := L - 1) (by omega)).symm.trans m3
      have := (h.l2 x.term).2.mono (i := a.length - 1) (j := L - 1) (by omega) (by have := h3.length_le; omega)
      omega
    exact pre_both h3 pa (by omega)
  · rw [h1] at pa
    exact hx.trans (pre_both pb pa h2)
end
end Go.Proofs.Ytokblidfekbeeaa
/- The plain law of a quorum: an election, entries that are taken, entries that are proposed. -/
namespace Go.Proofs.Ytokblidfekbeeaa
set_option linter.unusedVariables false

section
variable {n : Nat} {rs : Nat → Rs} {g g' : Gh}
theorem voter_term (h : Inv n rs g) {q : Nat} (hq : q < n) {T : Int} (hv : g.vt q T ≠ none) : T ≤ (rs q).js.term := by
  apply Classical.byContradiction
  intro hn
  exact hv (h.v2 q hq T (by omega))
/-- A candidate that a majority voted for leads. -/
theorem Inv.elect (h : Inv n rs g) {q : Nat} (hq : q < n) (hr : (rs q).role = 2) (hmaj : Maj n fun i => g.vt i (rs q).js.term = some q) :
    ∃ g', Inv n (upd rs q (rs q).lead) g' ∧ Ext g g' := by
  obtain ⟨ok0, id0, n0⟩ := h.ok q hq
  obtain ⟨c1, c2, c3, c4⟩ := h.v3 q hq hr
  have hel : g.el (rs q).js.term = none := by
    cases he : g.el (rs q).js.term with
    | none => rfl
    | some d =>
      exfalso
      obtain ⟨k1, k2⟩ := h.v4 _ _ he
      obtain ⟨i, hi, e1, e2⟩ := k2.meet hmaj
      rw [e1] at e2
      injection e2 with e2
      subst e2
      exact c4 he
  have hgl := h.a5 _ hel
  have hacc : ∀ i, g.acc i (rs q).js.term = 0 := fun i => by
    have := h.a1 i (rs q).js.term
    rw [hgl] at this
    simpa using this
  have hnoT : ∀ l, Pref g.gl l → ∀ (i : Nat) (x : Lg), l[i]? = some x → x.term ≠ (rs q).js.term := by
    intro l hl i x hx he
    have h1 := (hl i x hx).length_le
    have h2 := (List.getElem?_eq_some_iff.1 hx).1
    rw [he, hgl, List.length_take, List.length_nil] at h1
    omega
  generalize hTe : (rs q).js.term = T0 at *
  generalize hlg : (rs q).js.log = log0 at *
  let g' : Gh := { g with el := fun T => if T = T0 then some q else g.el T, gl := fun T => if T = T0 then log0 else g.gl T, acc := fun i T => if T = T0 then (if i = q then log0.length else 0) else g.acc i T }
  have e1 : ∀ T, T ≠ T0 → g'.el T = g.el T ∧ g'.gl T = g.gl T ∧ ∀ i, g'.acc i T = g.acc i T := fun T hn => ⟨if_neg hn, if_neg hn, fun i => if_neg hn⟩
  have e2 : g'.el T0 = some q ∧ g'.gl T0 = log0 ∧ ∀ i, g'.acc i T0 = if i = q then log0.length else 0 := ⟨if_pos rfl, if_pos rfl, fun i => if_pos rfl⟩
  have hglp : ∀ T, g.gl T <+: g'.gl T := fun T => by
    by_cases hT : T = T0
    · subst hT; rw [hgl]; exact List.nil_prefix
    · rw [(e1 T hT).2.1]; exact List.prefix_refl _
  have hext : Ext g g' := by
    refine ⟨fun T c hc => ?_, hglp, fun i T => ?_, fun i T c hc => ⟨hc, rfl⟩⟩
    · have hT : T ≠ T0 := by rintro rfl; rw [hel] at hc; cases hc
      rw [(e1 T hT).1]; exact hc
    · by_cases hT : T = T0
      · subst hT; rw [hacc]; exact Nat.zero_le _
      · rw [(e1 T hT).2.2]; exact Nat.le_refl _
  have hlead : ∀ i, (upd rs q (rs q).lead i).js = (rs i).js ∧ (upd rs q (rs q).lead i).commit = (rs i).commit := fun i => by
    unfold upd
    split
    · rename_i e; subst e; exact ⟨rfl, rfl⟩
    · exact ⟨rfl, rfl⟩
  have hposs : ∀ T L, T ≠ T0 → Poss n (upd rs q (rs q).lead) g' T L → Poss n rs g T L := fun T L hT hp => hp.mono fun i _ hi => by rw [(hlead i).1, (e1 T hT).2.2] at hi; exact hi
  have hmark : ∀ T L, T ≠ T0 → Mark g' T L → Mark g T L := fun T L hT hm => by
    obtain ⟨m1, m2, m3⟩ := hm
    rw [(e1 T hT).2.1] at m2 m3
    exact ⟨m1, m2, m3⟩
  have hp0 : Pref g.gl log0 := by rw [← hlg]; exact h.l1 q hq
  have hno : ∀ L, ¬ Mark g' T0 L := fun L hm => by
    obtain ⟨m1, m2, m3⟩ := hm
    rw [e2.2.1] at m2 m3
    obtain ⟨x, hx⟩ : ∃ x, log0[L - 1]? = some x := ⟨_, List.getElem?_eq_getElem (by omega)⟩
    rw [termAt_at hx] at m3
    exact hnoT log0 hp0 _ x hx m3
  have hT0 : ∀ i, i < n → g.vt i T0 = some q → T0 ≤ (rs i).js.term := fun i hi hv => voter_term h hi (by rw [hv]; simp)
  refine ⟨g', ⟨fun i hi => ?_, fun i hi => by rw [(hlead i).1]; exact h.v1 i hi, fun i hi => by rw [(hlead i).1]; exact h.v2 i hi, fun i hi hr2 => ?_, fun T c hc => ?_, fun i hi hr2 => ?_, h.v8, fun i hi => by rw [(hlead i).1]; exact (h.l1 i hi).mono hglp, fun T => ?_, fun i T hi hv => ⟨(h.l3 i T hi hv).1.mono hglp, (h.l3 i T hi hv).2⟩, fun i T => ?_, fun i hi T ha => ?_, fun i hi => ?_, fun T c hc => ?_, fun T hc => ?_,
    fun T T' L a b c d => ?_, fun i hi T L a b c => ?_, fun i hi T T' L a b c d e => ?_, fun i hi => ?_⟩, hext⟩
  · by_cases e : i = q
    · subst e; rw [upd_self]; exact ⟨ok0.lead, id0, n0⟩
    · rw [upd_ne e]; exact h.ok i hi
  · by_cases e : i = q
    · subst e; rw [upd_self] at hr2; simp [Rs.lead] at hr2
    · rw [upd_ne e] at hr2 ⊢
      obtain ⟨k1, k2, k3, k4⟩ := h.v3 i hi hr2
      refine ⟨k1, k2, k3, ?_⟩
      by_cases hT : (rs i).js.term = T0
      · rw [hT, e2.1]
        intro hh
        injection hh with hh
        exact e hh.symm
      · rw [(e1 _ hT).1]; exact k4
  · by_cases hT : T = T0
    · subst hT
      rw [e2.1] at hc
      injection hc with hc
      subst hc
      exact ⟨hq, hmaj⟩
    · rw [(e1 T hT).1] at hc
      exact h.v4 T c hc
  · by_cases e : i = q
    · subst e
      rw [upd_self]
      show g'.el (rs i).js.term = some i ∧ (rs i).js.log = g'.gl (rs i).js.term ∧ ∀ k, k < n → k ≠ i → 0 ≤ g'.acc k (rs i).js.term
      rw [hTe, hlg]
      exact ⟨e2.1, e2.2.1.symm, fun k _ _ => Nat.zero_le _⟩
    · rw [upd_ne e] at hr2 ⊢
      obtain ⟨k1, k2, k3⟩ := h.v5 i hi hr2
      have hT : (rs i).js.term ≠ T0 := by
        intro hT
        rw [hT, hel] at k1
        cases k1
      rw [(e1 _ hT).1, (e1 _ hT).2.1]
      exact ⟨k1, k2, fun k h1 h2 => by rw [(e1 _ hT).2.2]; exact k3 k h1 h2⟩
  · by_cases hT : T = T0
    · subst hT
      rw [e2.2.1]
      refine ⟨hp0.mono hglp, ?_⟩
      have := ok0.log
      rw [hlg, hTe] at this
      exact this
    · rw [(e1 T hT).2.1]
      exact ⟨(h.l2 T).1.mono hglp, (h.l2 T).2⟩
  · by_cases hT : T = T0
    · subst hT
      rw [e2.2.1, e2.2.2]
      split
      · exact Nat.le_refl _
      · exact Nat.zero_le _
    · rw [(e1 T hT).2.1, (e1 T hT).2.2]; exact h.a1 i T
  · rw [(hlead i).1]
    by_cases hT : T = T0
    · subst hT
      rw [e2.2.2] at ha
      split at ha
      · rename_i e; subst e; omega
      · omega
    · rw [(e1 T hT).2.2] at ha
      exact h.a2 i hi T ha
  · rw [(hlead i).1]
    by_cases hT : (rs i).js.term = T0
    · rw [hT, e2.2.1, e2.2.2]
      split
      · rename_i e; subst e; rw [hlg, List.take_length]; exact List.prefix_refl _
      · rw [List.take_zero]; exact List.nil_prefix
    · rw [(e1 _ hT).2.1, (e1 _ hT).2.2]; exact h.a3 i hi
  · by_cases hT : T = T0
    · subst hT
      rw [e2.1] at hc
      injection hc with hc
      subst hc
      rw [e2.2.1, e2.2.2, if_pos rfl]
    · rw [(e1 T hT).1] at hc
      rw [(e1 T hT).2.1, (e1 T hT).2.2]
      exact h.a4 T c hc
  · by_cases hT : T = T0
    · subst hT; rw [e2.1] at hc; cases hc
    · rw [(e1 T hT).1] at hc
      rw [(e1 T hT).2.1]
      exact h.a5 T hc
  · have hT : T ≠ T0 := by rintro rfl; exact hno L c
    by_cases hT' : T' = T0
    · subst hT'
      rw [(e1 T hT).2.1, e2.2.1]
      have hm := hmark T L hT c
      have hp := hposs T L hT d
      obtain ⟨i, hi, x1, x2⟩ := hp.meet hmaj
      have hti := hT0 i hi x2
      have hL : L ≤ g.acc i T := by
        rcases x1 with x1 | x1
        · exact x1
        · omega
      have hvn : g.vt i T' ≠ none := by rw [x2]; simp
      have h8 := h.i8 i hi T T' L a hvn hm hp hL
      obtain ⟨-, -, w3, w4⟩ := h.v8 i T' q hi x2
      obtain ⟨p1, p2⟩ := h.l3 i T' hi hvn
      obtain ⟨q1, q2⟩ := h.l3 q T' hq (by rw [c2]; simp)
      rw [c3] at w3 w4 q1 q2
      exact h.better hm hp q1 p1 q2 p2 w3 w4 h8
    · rw [(e1 T' hT').1] at b
      rw [(e1 T hT).2.1, (e1 T' hT').2.1]
      exact h.i5 T T' L a b (hmark T L hT c) (hposs T L hT d)
  · have hT : T ≠ T0 := by rintro rfl; exact hno L a
    rw [(e1 T hT).2.2] at c
    rw [(e1 T hT).2.1, (hlead i).1]
    exact h.i6 i hi T L (hmark T L hT a) (hposs T L hT b) c
  · have hT : T ≠ T0 := by rintro rfl; exact hno L c
    rw [(e1 T hT).2.2] at e
    rw [(e1 T hT).2.1]
    exact h.i8 i hi T T' L a b (hmark T L hT c) (hposs T L hT d) e
  · rw [(hlead i).1, (hlead i).2]
    exact (h.c9 i hi).ext hext

/-- The leader of a term appends an entry. -/
theorem Inv.grow (h : Inv n rs g) {q : Nat} (hq : q < n) (hr : (rs q).role = 3) (x : Lg) (hx : x.term = (rs q).js.term) {r : Rs} (hrok : RsOk r) (hrr : r = { rs q with js := ⟨(rs q).js.term, (rs q).js.vote, (rs q).js.log ++ [x]⟩ }) :
    ∃ g', Inv n (upd rs q r) g' ∧ Ext g g' := by
  obtain ⟨ok0, id0, n0⟩ := h.ok q hq
  obtain ⟨b1, b2, b3⟩ := h.v5 q hq hr
  have hacc := h.a4 _ _ b1
  generalize hTe : (rs q).js.term = T0 at *
  generalize hlg : (rs q).js.log = log0 at *
  have rj : r.js = ⟨T0, (rs q).js.vote, log0 ++ [x]⟩ := by rw [hrr]
  have rr : r.role = (rs q).role ∧ r.votes = (rs q).votes ∧ r.mtch = (rs q).mtch ∧ r.commit = (rs q).commit ∧ r.id = (rs q).id ∧ r.n = (rs q).n := by rw [hrr]; exact ⟨rfl, rfl, rfl, rfl, rfl, rfl⟩
  clear hrr
  let g' : Gh := { g with gl := fun T => if T = T0 then log0 ++ [x] else g.gl T, acc := fun i T => if i = q ∧ T = T0 then log0.length + 1 else g.acc i T }
  have e1 : ∀ T, T ≠ T0 → g'.gl T = g.gl T ∧ ∀ i, g'.acc i T = g.acc i T := fun T hn => ⟨if_neg hn, fun i => if_neg fun hh => hn hh.2⟩
  have e2 : g'.gl T0 = log0 ++ [x] := if_pos rfl
  have e3 : g'.acc q T0 = log0.length + 1 := if_pos ⟨rfl, rfl⟩
  have e4 : ∀ i, i ≠ q → ∀ T, g'.acc i T = g.acc i T := fun i hn T => if_neg fun hh => hn hh.1
  have hglp : ∀ T, g.gl T <+: g'.gl T := fun T => by
    by_cases hT : T = T0
    · subst hT; rw [e2, ← b2]; exact List.prefix_append _ _
    · rw [(e1 T hT).1]; exact List.prefix_refl _
  have hext : Ext g g' := by
    refine ⟨fun T c hc => hc, hglp, fun i T => ?_, fun i T c hc => ⟨hc, rfl⟩⟩
    by_cases hi : i = q ∧ T = T0
    · obtain ⟨rfl, rfl⟩ := hi
      rw [e3, hacc, ← b2]; omega
    · show g.acc i T ≤ if i = q ∧ T = T0 then log0.length + 1 else g.acc i T
      rw [if_neg hi]; exact Nat.le_refl _
  have hterm : ∀ i, (upd rs q r i).js.term = (rs i).js.term := fun i => by
    unfold upd
    split
    · rename_i e; subst e; rw [rj, hTe]
    · rfl
  have hlen0 : (g.gl T0).length = log0.length := by rw [← b2]
  have hposs : ∀ T L, (T ≠ T0 ∨ L ≤ log0.length) → Poss n (upd rs q r) g' T L → Poss n rs g T L := fun T L hT hp => hp.mono fun i _ hi => by
    rw [hterm] at hi
    rcases hi with hi | hi
    · by_cases hh : i = q ∧ T = T0
      · obtain ⟨rfl, rfl⟩ := hh
        rcases hT with hT | hT
        · exact absurd rfl hT
        · exact .inl (by rw [hacc, hlen0]; exact hT)
      · left
        have : g'.acc i T = g.acc i T := if_neg hh
        rw [this] at hi
        exact hi
    · exact .inr hi
  have hmark : ∀ T L, (T ≠ T0 ∨ L ≤ log0.length) → Mark g' T L → Mark g T L := fun T L hT hm => by
    obtain ⟨m1, m2, m3⟩ := hm
    by_cases hT0 : T = T0
    · have hL : L ≤ log0.length := hT.resolve_left fun hh => hh hT0
      subst hT0
      exact ⟨m1, by omega, (termAt_pre (hglp T) (i := L - 1) (by omega)).symm.trans m3⟩
    · rw [(e1 T hT0).1] at m2 m3
      exact ⟨m1, m2, m3⟩
  have htk : ∀ T L, (T ≠ T0 ∨ L ≤ log0.length) → (g'.gl T).take L = (g.gl T).take L := fun T L hT => by
    by_cases hT0 : T = T0
    · have hL : L ≤ log0.length := hT.resolve_left fun hh => hh hT0
      subst hT0
      exact pre_take (hglp T) (by omega)
    · rw [(e1 T hT0).1]
  have hmk : ∀ T L, Mark g' T L → T ≠ T0 ∨ L ≤ log0.length ∨ (T = T0 ∧ L = log0.length + 1) := fun T L hm => by
    by_cases hT0 : T = T0
    · subst hT0
      have := hm.2.1
      rw [e2, List.length_append, List.length_singleton] at this
      omega
    · exact .inl hT0
  have hlog : ∀ i, i ≠ q → (upd rs q r i).js = (rs i).js := fun i hi => by rw [upd_ne hi]
  have hokl : LogOk (log0 ++ [x]) T0 := by
    have := hrok.log
    rw [rj] at this
    exact this
  have hprefT : Pref g'.gl (log0 ++ [x]) := by
    intro i y hy
    rcases Nat.lt_or_ge i log0.length with hi | hi
    · rw [List.getElem?_append_left hi] at hy
      rw [List.take_append_of_le_length (by omega)]
      have := (h.l1 q hq) i y
      rw [hlg] at this
      exact (this hy).trans (hglp _)
    · rw [List.getElem?_append_right hi] at hy
      have hi0 : i - log0.length = 0 := by
        have := (List.getElem?_eq_some_iff.1 hy).1
        simp at this; omega
      rw [hi0] at hy
      simp at hy
      subst hy
      rw [hx, e2]
      exact take_pre _ _
  refine ⟨g', ⟨fun i hi => ?_, fun i hi => ?_, fun i hi => by rw [hterm]; exact h.v2 i hi, fun i hi hr2 => ?_, h.v4, fun i hi hr2 => ?_, h.v8, fun i hi => ?_, fun T => ?_, fun i T hi hv => ⟨(h.l3 i T hi hv).1.mono hglp, (h.l3 i T hi hv).2⟩, fun i T => ?_, fun i hi T ha => ?_, fun i hi => ?_, fun T c hc => ?_, fun T hc => ?_,
    fun T T' L a b c d => ?_, fun i hi T L a b c => ?_, fun i hi T T' L a b c d e => ?_, fun i hi => ?_⟩, hext⟩
  · by_cases e : i = q
    · subst e; rw [upd_self, rr.2.2.2.2.1, rr.2.2.2.2.2]; exact ⟨hrok, id0, n0⟩
    · rw [upd_ne e]; exact h.ok i hi
  · by_cases e : i = q
    · subst e; rw [upd_self, rj]; have := h.v1 i hi; rw [hTe] at this; exact this
    · rw [upd_ne e]; exact h.v1 i hi
  · by_cases e : i = q
    · subst e; rw [upd_self, rr.1, hr] at hr2; simp at hr2
    · rw [upd_ne e] at hr2 ⊢; exact h.v3 i hi hr2
  · by_cases e : i = q
    · subst e
      rw [upd_self, rj, rr.2.2.1]
      exact ⟨b1, e2.symm, fun k hk hki => by rw [e4 k hki]; exact b3 k hk hki⟩
    · rw [upd_ne e] at hr2 ⊢
      obtain ⟨k1, k2, k3⟩ := h.v5 i hi hr2
      have hT : (rs i).js.term ≠ T0 := by
        intro hT
        rw [hT, b1] at k1
        injection k1 with k1
        exact e k1.symm
      rw [(e1 _ hT).1]
      exact ⟨k1, k2, fun k h1 h2 => by rw [(e1 _ hT).2]; exact k3 k h1 h2⟩
  · by_cases e : i = q
    · subst e; rw [upd_self, rj]; exact hprefT
    · rw [upd_ne e]; exact (h.l1 i hi).mono hglp
  · by_cases hT : T = T0
    · subst hT; rw [e2]; exact ⟨hprefT, hokl⟩
    · rw [(e1 T hT).1]; exact ⟨(h.l2 T).1.mono hglp, (h.l2 T).2⟩
  · by_cases hh : i = q ∧ T = T0
    · obtain ⟨rfl, rfl⟩ := hh
      rw [e2, e3, List.length_append, List.length_singleton]; omega
    · have : g'.acc i T = g.acc i T := if_neg hh
      rw [this]
      exact Nat.le_trans (h.a1 i T) (hglp T).length_le
  · rw [hterm]
    by_cases hh : i = q ∧ T = T0
    · obtain ⟨rfl, rfl⟩ := hh; omega
    · have : g'.acc i T = g.acc i T := if_neg hh
      rw [this] at ha
      exact h.a2 i hi T ha
  · rw [hterm]
    by_cases e : i = q
    · subst e
      rw [hTe, e2, e3, upd_self, rj]
      exact take_pre _ _
    · rw [e4 i e, upd_ne e]
      by_cases hT : (rs i).js.term = T0
      · rw [hT]
        have ha := h.a1 i T0
        rw [pre_take (hglp T0) ha, ← hT]
        exact h.a3 i hi
      · rw [(e1 _ hT).1]; exact h.a3 i hi
  · by_cases hT : T = T0
    · subst hT
      have hc2 : g.el T = some c := hc
      rw [b1] at hc2
      injection hc2 with hc2
      subst hc2
      rw [e2, e3, List.length_append, List.length_singleton]
    · rw [(e1 T hT).1, (e1 T hT).2]; exact h.a4 T c hc
  · have hT : T ≠ T0 := by
      rintro rfl
      have hc2 : g.el T = none := hc
      rw [b1] at hc2
      cases hc2
    rw [(e1 T hT).1]
    exact h.a5 T hc
  · rcases hmk T L c with k | k | ⟨rfl, rfl⟩
    · rw [htk T L (.inl k)]
      exact (h.i5 T T' L a b (hmark T L (.inl k) c) (hposs T L (.inl k) d)).trans (hglp T')
    · rw [htk T L (.inr k)]
      exact (h.i5 T T' L a b (hmark T L (.inr k) c) (hposs T L (.inr k) d)).trans (hglp T')
    · exfalso
      have hel : g.el T' ≠ none := b
      cases he : g.el T' with
      | none => exact hel he
      | some e' =>
        obtain ⟨-, k2⟩ := h.v4 _ _ he
        obtain ⟨i, hi, x1, x2⟩ := k2.meet d
        have hti := voter_term h hi (by rw [x1]; simp)
        rw [hterm] at x2
        rcases x2 with x2 | x2
        · by_cases e : i = q
          · subst e; omega
          · rw [e4 i e] at x2
            have := h.a1 i T
            omega
        · omega
  · by_cases e : i = q
    · subst e
      rw [upd_self, rj]
      show (g'.gl T).take L <+: log0 ++ [x]
      rcases hmk T L a with k | k | ⟨rfl, rfl⟩
      · rw [htk T L (.inl k)]
        rw [(e1 T k).2] at c
        have := h.i6 i hi T L (hmark T L (.inl k) a) (hposs T L (.inl k) b) c
        rw [hlg] at this
        exact this.trans (List.prefix_append _ _)
      · by_cases hT : T = T0
        · subst hT; rw [e2]; exact take_pre _ _
        · rw [htk T L (.inl hT)]
          rw [(e1 T hT).2] at c
          have := h.i6 i hi T L (hmark T L (.inl hT) a) (hposs T L (.inl hT) b) c
          rw [hlg] at this
          exact this.trans (List.prefix_append _ _)
      · rw [e2]; exact take_pre _ _
    · rw [upd_ne e]
      rw [e4 i e] at c
      have hc := h.a1 i T
      have k : T ≠ T0 ∨ L ≤ log0.length := by
        by_cases hT : T = T0
        · subst hT; exact .inr (by omega)
        · exact .inl hT
      rw [htk T L k]
      exact h.i6 i hi T L (hmark T L k a) (hposs T L k b) c
  · have k : T ≠ T0 ∨ L ≤ log0.length := by
      by_cases hT : T = T0
      · subst hT
        by_cases e2 : i = q
        · subst e2
          have := voter_term h hi b
          omega
        · rw [e4 i e2] at e
          have := h.a1 i T
          exact .inr (by omega)
      · exact .inl hT
    rw [htk T L k]
    have hL : L ≤ g.acc i T := by
      by_cases hh : i = q ∧ T = T0
      · obtain ⟨rfl, rfl⟩ := hh
        have := voter_term h hi b
        omega
      · have : g'.acc i T = g.acc i T := if_neg hh
        rw [this] at e
        exact e
    exact h.i8 i hi T T' L a b (hmark T L k c) (hposs T L k d) hL
  · by_cases e : i = q
    · subst e
      rw [upd_self, rj, rr.2.2.2.1]
      have hcm := ok0.com
      rw [hlg] at hcm
      show Cmt n g' ((log0 ++ [x]).take (rs i).commit)
      rw [List.take_append_of_le_length hcm]
      have := (h.c9 i hi).ext hext
      rw [hlg] at this
      exact this
    · rw [upd_ne e]; exact (h.c9 i hi).ext hext
end
end Go.Proofs.Ytokblidfekbeeaa
/- The plain law of a quorum: each call of a replica keeps it. -/
namespace Go.Proofs.Ytokblidfekbeeaa
set_option linter.unusedVariables false

section
variable {n : Nat} {rs : Nat → Rs} {g g' : Gh}
/-- A replica takes entries of the leader of its term. -/
theorem Inv.taken (h : Inv n rs g) {q : Nat} (hq : q < n) {T : Int} (hT : (rs q).js.term = T) {c : Nat} (hel : g.el T = some c) (hcq : c ≠ q) (e : Nat) (he : e ≤ (g.gl T).length) {log' : List Lg} (hpre : (g.gl T).take e <+: log')
    (halt : log' = (rs q).js.log ∨ ∃ p, p < e ∧ (rs q).commit ≤ p ∧ log' = (g.gl T).take e ∧ log'.take p = (rs q).js.log.take p ∧ termAt (rs q).js.log (p : Int) ≠ termAt (g.gl T) (p : Int))
    (k : Nat) (hck : Cmt n g ((g.gl T).take k)) {r : Rs} (hrok : RsOk r) (hrid : r.id = (rs q).id) (hrn : r.n = (rs q).n) (hjs : r.js = ⟨T, (rs q).js.vote, log'⟩) (hrole : r.role = 1) (hcom : r.commit = max (rs q).commit (min k e)) :
    ∃ g', Inv n (upd rs q r) g' ∧ Ext g g' ∧ e ≤ g'.acc q T := by
  obtain ⟨ok0, id0, n0⟩ := h.ok q hq
  let g' : Gh := { g with acc := fun i T' => if i = q ∧ T' = T then max (g.acc q T) e else g.acc i T' }
  have e1 : g'.acc q T = max (g.acc q T) e := if_pos ⟨rfl, rfl⟩
  have e2 : ∀ i T', ¬ (i = q ∧ T' = T) → g'.acc i T' = g.acc i T' := fun i T' hn => if_neg hn
  have hext : Ext g g' := ⟨fun _ _ hh => hh, fun _ => List.prefix_refl _, fun i T' => by
    by_cases hh : i = q ∧ T' = T
    · obtain ⟨rfl, rfl⟩ := hh; rw [e1]; omega
    · rw [e2 i T' hh]; exact Nat.le_refl _, fun _ _ _ hh => ⟨hh, rfl⟩⟩
  have hX : ∀ X : List Lg, X <+: (rs q).js.log → X <+: g.gl T → X <+: log' := by
    intro X h1 h2
    rcases halt with rfl | ⟨p, hp1, hp2, hp3, hp4, hp5⟩
    · exact h1
    · rw [hp3]
      have hXp : X.length ≤ p := by
        apply Classical.byContradiction
        intro hn
        rw [termAt_pre h1 (by omega), termAt_pre h2 (by omega)] at hp5
        exact hp5 rfl
      exact pre_both h2 (take_pre _ _) (by rw [List.length_take]; omega)
  have hacc : (g.gl T).take (max (g.acc q T) e) <+: log' := by
    rcases Nat.le_total (g.acc q T) e with hh | hh
    · rw [Nat.max_eq_right hh]; exact hpre
    · rw [Nat.max_eq_left hh]
      have := h.a3 q hq
      rw [hT] at this
      exact hX _ this (take_pre _ _)
  have hterm : ∀ i, (upd rs q r i).js.term = (rs i).js.term := fun i => by
    unfold upd
    split
    · rename_i e; subst e; rw [hjs, hT]
    · rfl
  have hposs : ∀ T' L, Poss n (upd rs q r) g' T' L → Poss n rs g T' L := fun T' L hp => hp.mono fun i _ hi => by
    rw [hterm] at hi
    rcases hi with hi | hi
    · by_cases hh : i = q ∧ T' = T
      · obtain ⟨rfl, rfl⟩ := hh; exact .inr (by omega)
      · rw [e2 i T' hh] at hi; exact .inl hi
    · exact .inr hi
  refine ⟨g', ⟨fun i hi => ?_, fun i hi => ?_, fun i hi => by rw [hterm]; exact h.v2 i hi, fun i hi hr2 => ?_, h.v4, fun i hi hr2 => ?_, h.v8, fun i hi => ?_, h.l2, h.l3, fun i T' => ?_, fun i hi T' ha => ?_, fun i hi => ?_, fun T' d hd => ?_, h.a5,
    fun T1 T' L a b c d => h.i5 T1 T' L a b c (hposs T1 L d), fun i hi T1 L a b c => ?_, fun i hi T1 T' L a b c d e => ?_, fun i hi => ?_⟩, hext, by rw [e1]; omega⟩
  · by_cases e : i = q
    · subst e; rw [upd_self, hrid, hrn]; exact ⟨hrok, id0, n0⟩
    · rw [upd_ne e]; exact h.ok i hi
  · by_cases e : i = q
    · subst e; rw [upd_self, hjs]; have := h.v1 i hi; rw [hT] at this; exact this
    · rw [upd_ne e]; exact h.v1 i hi
  · by_cases e : i = q
    · subst e; rw [upd_self, hrole] at hr2; simp at hr2
    · rw [upd_ne e] at hr2 ⊢; exact h.v3 i hi hr2
  · by_cases e : i = q
    · subst e; rw [upd_self, hrole] at hr2; simp at hr2
    · rw [upd_ne e] at hr2 ⊢
      obtain ⟨k1, k2, k3⟩ := h.v5 i hi hr2
      exact ⟨k1, k2, fun j h1 h2 => Nat.le_trans (k3 j h1 h2) (hext.acc _ _)⟩
  · by_cases e : i = q
    · subst e
      rw [upd_self, hjs]
      rcases halt with h1 | ⟨p, hp1, hp2, hp3, hp4, hp5⟩
      · rw [h1]; exact h.l1 i hi
      · rw [hp3]; exact (h.l2 T).1.take _
    · rw [upd_ne e]; exact h.l1 i hi
  · by_cases hh : i = q ∧ T' = T
    · obtain ⟨rfl, rfl⟩ := hh
      rw [e1]
      have := h.a1 i T'
      show _ ≤ (g.gl T').length
      omega
    · rw [e2 i T' hh]; exact h.a1 i T'
  · rw [hterm]
    by_cases hh : i = q ∧ T' = T
    · obtain ⟨rfl, rfl⟩ := hh; omega
    · rw [e2 i T' hh] at ha; exact h.a2 i hi T' ha
  · rw [hterm]
    by_cases e : i = q
    · subst e
      rw [upd_self, hjs, hT, e1]
      exact hacc
    · rw [upd_ne e, e2 i _ (fun hh => e hh.1)]; exact h.a3 i hi
  · have hd2 : g.el T' = some d := hd
    have hne : ¬ (d = q ∧ T' = T) := by
      rintro ⟨rfl, rfl⟩
      rw [hel] at hd2
      injection hd2 with hd2
      exact hcq hd2
    rw [e2 d T' hne]
    exact h.a4 T' d hd2
  · by_cases e : i = q
    · subst e
      rw [upd_self, hjs]
      show (g.gl T1).take L <+: log'
      by_cases hT1 : T1 = T
      · subst hT1
        rw [e1] at c
        exact (take_take_pre _ c).trans hacc
      · rw [e2 i T1 (fun hh => hT1 hh.2)] at c
        have h1 := h.a2 i hi T1 (by have := a.1; omega)
        exact hX _ (h.i6 i hi T1 L a (hposs T1 L b) c) (h.i5 T1 T L (by omega) (by rw [hel]; simp) a (hposs T1 L b))
    · rw [e2 i T1 (fun hh => e hh.1)] at c
      rw [upd_ne e]
      exact h.i6 i hi T1 L a (hposs T1 L b) c
  · have hL : L ≤ g.acc i T1 := by
      by_cases hh : i = q ∧ T1 = T
      · obtain ⟨rfl, rfl⟩ := hh
        have := voter_term h hi b
        omega
      · rw [e2 i T1 hh] at e; exact e
    exact h.i8 i hi T1 T' L a b c (hposs T1 L d) hL
  · by_cases e3 : i = q
    · subst e3
      rw [upd_self, hjs, hcom]
      show Cmt n g' (log'.take _)
      rcases Nat.le_total (min k e) (rs i).commit with hh | hh
      · rw [Nat.max_eq_left hh]
        have h9 := (h.c9 i hi).ext hext
        rcases halt with h1 | ⟨p, hp1, hp2, hp3, hp4, hp5⟩
        · rw [h1]; exact h9
        · have : log'.take (rs i).commit = (rs i).js.log.take (rs i).commit := by
            rw [show log'.take (rs i).commit = (log'.take p).take (rs i).commit from by rw [List.take_take, Nat.min_eq_left hp2], hp4, List.take_take, Nat.min_eq_left hp2]
          rw [this]; exact h9
      · rw [Nat.max_eq_right hh]
        have : log'.take (min k e) = (g.gl T).take (min k e) := by
          rw [pre_take hpre (by rw [List.length_take]; omega), List.take_take]
          congr 1
          omega
        rw [this]
        exact (hck.pre (take_take_pre _ (by omega))).ext hext
    · rw [upd_ne e3]; exact (h.c9 i hi).ext hext

/-- The entries that are there already are those of the leader. -/
theorem match_pre (h : Inv n rs g) {q : Nat} (hq : q < n) {m : Ms} {i : Nat} (hi : m.index = i) (he : i + m.es.length ≤ (g.gl m.term).length) (hes : m.es = ((g.gl m.term).drop i).take m.es.length)
    (hp : m.prev = termAt (g.gl m.term) ((i : Int) - 1)) (hf : (rs q).fits m = true) : (rs q).js.log.take (i + matchK (rs q).js.log i m.es) = (g.gl m.term).take (i + matchK (rs q).js.log i m.es) := by
  unfold Rs.fits at hf
  simp only [decide_eq_true_eq] at hf
  have hml := matchK_le (rs q).js.log m.es i
  have hsame := matchK_same (rs q).js.log m.es i
  generalize matchK (rs q).js.log i m.es = K at *
  rcases Nat.eq_zero_or_pos (i + K) with h0 | h0
  · rw [h0, List.take_zero, List.take_zero]
  · obtain ⟨y, hy⟩ : ∃ y, (g.gl m.term)[i + K - 1]? = some y := ⟨_, List.getElem?_eq_getElem (by omega)⟩
    have hy1 := (((h.l2 m.term).2).each y (List.mem_of_getElem? hy)).1
    have ht : termAt (rs q).js.log ((i + K - 1 : Nat) : Int) = y.term := by
      rcases Nat.eq_zero_or_pos K with rfl | hK
      · rcases hf.2 with h1 | h1
        · omega
        · rw [show ((i + 0 - 1 : Nat) : Int) = m.index - 1 from by omega, h1, hp, show ((i : Int) - 1) = ((i + 0 - 1 : Nat) : Int) from by omega, termAt_at hy]
      · obtain ⟨z, hz1, hz2⟩ := hsame (K - 1) (by omega)
        rw [hes, List.getElem?_take, if_pos (by omega), List.getElem?_drop, show i + (K - 1) = i + K - 1 from by omega, hy] at hz1
        injection hz1 with hz1
        subst hz1
        rw [← hz2, show i + (K - 1) = i + K - 1 from by omega]
    have hlt : i + K - 1 < (rs q).js.log.length := by
      apply Classical.byContradiction
      intro hn
      rw [termAt_out (by omega)] at ht
      omega
    obtain ⟨x, hx⟩ : ∃ x, (rs q).js.log[i + K - 1]? = some x := ⟨_, List.getElem?_eq_getElem hlt⟩
    rw [termAt_at hx] at ht
    have := (h.l1 q hq).agree (h.l2 m.term).1 hx hy ht
    rw [show i + K - 1 + 1 = i + K from by omega] at this
    exact this

theorem MsgOk.none_ (m : Ms) (h1 : m.es = []) (h2 : m.kind ≠ 1) (h3 : m.kind ≠ 3) (h4 : m.ok = false) : MsgOk n g m :=
  ⟨(fun x hx => by rw [h1] at hx; cases hx), fun h => absurd h h2, (fun _ h => by rw [h4] at h; cases h), fun h => absurd h h3, fun _ h => by rw [h4] at h; cases h⟩
theorem cmt_nil : Cmt n g [] := .inl rfl

/-- The role falls. -/
theorem Inv.falls (h : Inv n rs g) {q : Nat} (hq : q < n) : Inv n (upd rs q { rs q with role := 1 }) g := by
  obtain ⟨ok0, -, -⟩ := h.ok q hq
  exact h.set hq ⟨ok0.log, ok0.lo, ok0.hi, ok0.vlo, ok0.vhi, ok0.idn, ok0.five, .inl rfl, ok0.com, ok0.vts, fun hh => by simp at hh, fun hh => by simp at hh⟩ rfl rfl rfl (fun hh => by simp at hh) (fun hh => by simp at hh) (h.c9 q hq)

theorem Inv.onAppend (h : Inv n rs g) {q : Nat} (hq : q < n) {m : Ms} (hm : Proper (rs q) m) (hk : m.kind = 3) (ht : m.term ≤ (rs q).js.term) (hmo : MsgOk n g m) :
    ∃ g', Inv n (upd rs q ((rs q).onAppend m).1) g' ∧ Ext g g' ∧ ∀ m' ∈ ((rs q).onAppend m).2, MsgOk n g' m' := by
  obtain ⟨ok0, id0, n0⟩ := h.ok q hq
  have hno : ∀ idx, ∀ m' ∈ (rs q).answer m.from_ idx false, MsgOk n g m' := by
    intro idx m' hm'
    simp only [Rs.answer, List.mem_singleton] at hm'
    subst hm'
    exact MsgOk.none_ _ rfl (by simp) (by simp) rfl
  have hrok := ok0.onAppend hm hk ht hmo.okE
  revert hrok
  unfold Rs.onAppend
  split
  · intro _; rw [upd_id]; exact ⟨g, h, Ext.refl g, hno _⟩
  · split
    · intro _; rw [upd_id]; exact ⟨g, h, Ext.refl g, fun _ hm' => by cases hm'⟩
    · split
      · intro _; exact ⟨g, h.falls hq, Ext.refl g, hno _⟩
      · rename_i h1 h2 h3
        have hf : (rs q).fits m = true := by simpa using h3
        have ht2 : m.term = (rs q).js.term := by omega
        obtain ⟨c, i, k, f1, f2, f3, f4, f5, f6, f7, f8, f9⟩ := hmo.app hk
        have hpre := match_pre h hq f2 f5 f6 f7 hf
        obtain ⟨k1, k2⟩ := take_log ok0 hm hk ht2 hf
        have hml := matchK_le (rs q).js.log m.es i
        have hcq : c ≠ q := by
          rintro rfl
          exact hm.ne (by rw [f1, id0])
        have hi : m.index.toNat = i := by omega
        have hkn : m.commit.toNat = k := by omega
        rw [hi] at k1 k2 ⊢
        rw [hkn]
        have hout : ∀ g', (i + m.es.length ≤ g'.acc q m.term) → ∀ m' ∈ (rs q).answer m.from_ (m.index + m.es.length) true, MsgOk n g' m' := by
          intro g' hg' m' hm'
          simp only [Rs.answer, List.mem_singleton] at hm'
          subst hm'
          refine ⟨(fun x hx => by cases hx), fun hh => by simp at hh, fun hh => by simp at hh, fun hh => by simp at hh, fun _ _ => ⟨q, i + m.es.length, by rw [id0], by rw [f2]; simp, hq, ?_⟩⟩
          simp only
          rw [← ht2]
          exact hg'
        split
        · rename_i h4
          split
          · intro _; exact ⟨g, h.falls hq, Ext.refl g, fun _ hm' => by cases hm'⟩
          · rename_i h5
            intro hrok
            rw [k2 h4] at hrok ⊢
            have hlog : (rs q).js.log.take (i + matchK (rs q).js.log i m.es) ++ m.es.drop (matchK (rs q).js.log i m.es) = (g.gl m.term).take (i + m.es.length) := by
              rw [hpre]
              have hd : ∀ K, m.es.drop K = ((g.gl m.term).take (i + m.es.length)).drop (i + K) := by
                intro K
                have e1 : m.es.drop K = (((g.gl m.term).drop i).take m.es.length).drop K := congrArg (List.drop K) f6
                rw [e1, List.drop_take, List.drop_drop, List.drop_take]
                congr 1
                omega
              rw [hd, show (g.gl m.term).take (i + matchK (rs q).js.log i m.es) = ((g.gl m.term).take (i + m.es.length)).take (i + matchK (rs q).js.log i m.es) from by rw [List.take_take, Nat.min_eq_left (by omega)], List.take_append_drop]
            obtain ⟨y, y1, y2⟩ := matchK_stop (rs q).js.log m.es i h4
            rw [hlog] at hrok ⊢
            obtain ⟨g', i1, i2, i3⟩ := h.taken hq ht2.symm f4 hcq (i + m.es.length) f5 (log' := (g.gl m.term).take (i + m.es.length)) (List.prefix_refl _) (.inr ⟨i + matchK (rs q).js.log i m.es, by omega, by omega, rfl, by rw [List.take_take, Nat.min_eq_left (by omega)]; exact hpre.symm, by
              have : termAt (g.gl m.term) ((i + matchK (rs q).js.log i m.es : Nat) : Int) = y.term := by
                have hget : ∀ K, K < m.es.length → m.es[K]? = (g.gl m.term)[i + K]? := by
                  intro K hK
                  have e1 : m.es[K]? = (((g.gl m.term).drop i).take m.es.length)[K]? := congrArg (fun l => l[K]?) f6
                  rw [e1, List.getElem?_take, if_pos hK, List.getElem?_drop]
                rw [hget _ h4] at y1
                exact termAt_at y1
              rw [this]
              exact y2⟩) k f9 hrok rfl rfl (by rw [ht2]) rfl rfl
            exact ⟨g', i1, i2, hout g' i3⟩
        · rename_i h4
          intro hrok
          have hK : matchK (rs q).js.log i m.es = m.es.length := by omega
          rw [hK] at hpre
          obtain ⟨g', i1, i2, i3⟩ := h.taken hq ht2.symm f4 hcq (i + m.es.length) f5 (log' := (rs q).js.log) (by rw [← hpre]; exact take_pre _ _) (.inl rfl) k f9 hrok rfl rfl (by rw [ht2]) rfl rfl
          exact ⟨g', i1, i2, hout g' i3⟩
end
end Go.Proofs.Ytokblidfekbeeaa
/- The plain law of a quorum: votes, answers, campaigns, proposals, crashes; what follows of it. -/
namespace Go.Proofs.Ytokblidfekbeeaa
set_option linter.unusedVariables false

section
variable {n : Nat} {rs : Nat → Rs} {g g' : Gh}
theorem stores_cnt (r : Rs) (m : Nat) : ∀ k, r.stores m k = cntB (fun i => i == r.id || decide (m ≤ r.mtch i)) k + if r.id < k then 0 else 1 := by
  intro k
  induction k with
  | zero => simp [Rs.stores, cntB]
  | succ k ih =>
    simp only [Rs.stores, cntB]
    rw [ih]
    by_cases h1 : k = r.id
    · subst h1
      simp
    · have h2 : (k == r.id) = false := by simpa using h1
      simp only [h2, Bool.false_or, decide_eq_true_eq]
      by_cases h3 : m ≤ r.mtch k <;> by_cases h4 : r.id < k
      · simp [h1, h3, h4, show r.id < k + 1 from by omega]
      · simp [h1, h3, h4, show ¬ r.id < k + 1 from by omega]
      · simp [h3, h4, show r.id < k + 1 from by omega]
      · simp [h3, h4, show ¬ r.id < k + 1 from by omega]
theorem cntV_cnt (v : Nat) : ∀ k, cntV v k = cntB (fun i => v.testBit i) k := by
  intro k
  induction k with
  | zero => rfl
  | succ k ih => simp only [cntV, cntB, ih]
theorem advG_some (r : Rs) : ∀ m, r.advG m = r.commit ∨ ∃ k, r.advG m = k + 1 ∧ k + 1 ≤ m ∧ termAt r.js.log (k : Int) = r.js.term ∧ r.n < 2 * r.stores (k + 1) r.n := by
  intro m
  induction m with
  | zero => exact .inl rfl
  | succ m ih =>
    simp only [Rs.advG]
    split
    · exact .inl rfl
    · split
      · rename_i h
        exact .inr ⟨m, rfl, Nat.le_refl _, h.1, h.2⟩
      · rcases ih with h | ⟨k, h1, h2, h3⟩
        · exact .inl h
        · exact .inr ⟨k, h1, by omega, h3⟩
/-- A leader knows what is committed. -/
theorem Inv.advance (h : Inv n rs g) {q : Nat} (hq : q < n) (hr : (rs q).role = 3) : Inv n (upd rs q (rs q).advance) g := by
  obtain ⟨ok0, id0, n0⟩ := h.ok q hq
  obtain ⟨b1, b2, b3⟩ := h.v5 q hq hr
  refine h.set hq ok0.advance rfl rfl rfl (fun hh => by rw [show (rs q).advance.role = (rs q).role from rfl, hr] at hh; simp at hh) (fun _ => h.v5 q hq hr) ?_
  show Cmt n g ((rs q).js.log.take ((rs q).advG (rs q).js.log.length))
  rcases advG_some (rs q) (rs q).js.log.length with e | ⟨k, e1, e2, e3, e4⟩
  · rw [e]; exact h.c9 q hq
  · rw [e1]
    refine .inr ⟨(rs q).js.term, k + 1, ⟨⟨by omega, by rw [← b2]; exact e2, ?_⟩, ?_⟩, ?_⟩
    · rw [← b2]; exact e3
    · refine ⟨fun i => i == (rs q).id || decide (k + 1 ≤ (rs q).mtch i), fun i hi hb => ?_, ?_⟩
      · simp only [Bool.or_eq_true, beq_iff_eq, decide_eq_true_eq] at hb
        by_cases hiq : i = q
        · subst hiq
          rw [h.a4 _ _ b1, ← b2]
          exact e2
        · rcases hb with hb | hb
          · rw [id0] at hb; exact absurd hb hiq
          · exact Nat.le_trans hb (b3 i hi hiq)
      · have := stores_cnt (rs q) (k + 1) (rs q).n
        rw [if_pos ok0.idn, n0] at this
        rw [n0, this] at e4
        exact e4
    · rw [← b2]; exact List.prefix_refl _
/-- The append messages of a leader. -/
theorem Inv.app (h : Inv n rs g) {q : Nat} (hq : q < n) (hr : (rs q).role = 3) (dst : Nat) : MsgOk n g ((rs q).app dst) := by
  obtain ⟨ok0, id0, n0⟩ := h.ok q hq
  obtain ⟨b1, b2, b3⟩ := h.v5 q hq hr
  have hnx := ok0.nxt hr dst
  refine ⟨fun x hx => (ok0.log.each x (List.mem_of_mem_drop hx)).2.2.2, fun hh => by simp [Rs.app] at hh, fun hh => by simp [Rs.app] at hh, fun _ => ?_, fun hh => by simp [Rs.app] at hh⟩
  refine ⟨q, (rs q).next dst, (rs q).commit, by simp [Rs.app, id0], rfl, rfl, b1, ?_, ?_, ?_, ?_, ?_⟩
  · show (rs q).next dst + ((rs q).js.log.drop ((rs q).next dst)).length ≤ (g.gl (rs q).js.term).length
    rw [← b2, List.length_drop]; omega
  · show (rs q).js.log.drop ((rs q).next dst) = ((g.gl (rs q).js.term).drop ((rs q).next dst)).take ((rs q).js.log.drop ((rs q).next dst)).length
    rw [← b2, List.take_length]
  · show termAt (rs q).js.log (((rs q).next dst : Int) - 1) = termAt (g.gl (rs q).js.term) (((rs q).next dst : Int) - 1)
    rw [← b2]
  · show (rs q).commit ≤ (g.gl (rs q).js.term).length
    rw [← b2]; exact ok0.com
  · show Cmt n g ((g.gl (rs q).js.term).take (rs q).commit)
    rw [← b2]; exact h.c9 q hq
theorem Inv.toAll (h : Inv n rs g) {q : Nat} (hq : q < n) (hr : (rs q).role = 3) : ∀ m ∈ (rs q).toAll, MsgOk n g m := by
  intro m hm
  unfold Rs.toAll at hm
  obtain ⟨dst, _, rfl⟩ := List.mem_map.1 hm
  exact h.app hq hr dst

theorem Inv.onVote (h : Inv n rs g) {q : Nat} (hq : q < n) {m : Ms} (hm : Proper (rs q) m) (hk : m.kind = 1) (hmo : MsgOk n g m) :
    ∃ g', Inv n (upd rs q ((rs q).onVote m).1) g' ∧ Ext g g' ∧ ∀ m' ∈ ((rs q).onVote m).2, MsgOk n g' m' := by
  obtain ⟨ok0, id0, n0⟩ := h.ok q hq
  obtain ⟨c, f1, f2, f3, f4, f5⟩ := hmo.vote hk
  unfold Rs.onVote
  cases hg : (rs q).grants m with
  | false =>
    simp only [Bool.false_eq_true, if_false]
    rw [upd_id]
    refine ⟨g, h, Ext.refl g, fun m' hm' => ?_⟩
    simp only [List.mem_singleton] at hm'
    subst hm'
    exact MsgOk.none_ _ rfl (by simp) (by simp) rfl
  | true =>
    simp only [if_true]
    unfold Rs.grants at hg
    simp only [decide_eq_true_eq] at hg
    obtain ⟨g1, g2, g3⟩ := hg
    have hcq : c ≠ q := by
      rintro rfl
      exact hm.ne (by rw [f2, id0])
    have hout : ∀ g', g'.vt q (rs q).js.term = some c → ∀ m' ∈ [(⟨2, ((rs q).id : Int), m.from_, (rs q).js.term, 0, 0, 0, true, []⟩ : Ms)], MsgOk n g' m' := by
      intro g' hg' m' hm'
      simp only [List.mem_singleton] at hm'
      subst hm'
      exact ⟨(fun x hx => by cases hx), fun hh => by simp at hh, fun _ _ => ⟨q, c, by rw [id0], f2, hq, hg'⟩, fun hh => by simp at hh, fun hh => by simp at hh⟩
    rw [f2] at g2
    by_cases hv : (rs q).js.vote = -1
    · obtain ⟨g', i1, i2, i3, i4, i5⟩ := h.votes hq c f1 hv (.inl ⟨hcq, by rw [← g1]; exact f3, by
        rw [f4, f5, g1] at g3
        rcases g3 with g3 | ⟨g3, g4⟩
        · exact .inl g3
        · exact .inr ⟨g3, by omega⟩⟩)
      refine ⟨g', ?_, i2, hout g' i3⟩
      rw [g1, f2]
      exact i1
    · have hvc : (rs q).js.vote = (c : Int) := by
        rcases g2 with g2 | g2
        · exact absurd g2 hv
        · exact g2
      have hsame : ({ rs q with js := ⟨m.term, m.from_, (rs q).js.log⟩ } : Rs) = rs q := by
        rw [g1, f2, ← hvc]
      refine ⟨g, ?_, Ext.refl g, hout g ?_⟩
      · rw [hsame, upd_id]; exact h
      · rw [h.v1 q hq, if_neg hv, hvc, Int.toNat_natCast]

theorem testBit_pow (f i : Nat) : ((2 : Nat) ^ f).testBit i = decide (f = i) := by
  rw [Nat.testBit_two_pow]
theorem Inv.onVoted (h : Inv n rs g) {q : Nat} (hq : q < n) {m : Ms} (hm : Proper (rs q) m) (hk : m.kind = 2) (hmo : MsgOk n g m) :
    ∃ g', Inv n (upd rs q ((rs q).onVoted m).1) g' ∧ Ext g g' ∧ ∀ m' ∈ ((rs q).onVoted m).2, MsgOk n g' m' := by
  obtain ⟨ok0, id0, n0⟩ := h.ok q hq
  unfold Rs.onVoted
  split
  · rw [upd_id]; exact ⟨g, h, Ext.refl g, fun _ hm' => by cases hm'⟩
  · rename_i h0
    have hr : (rs q).role = 2 := by
      apply Classical.byContradiction
      intro hh; exact h0 (.inl hh)
    have ht : m.term = (rs q).js.term := by
      apply Classical.byContradiction
      intro hh; exact h0 (.inr (.inl hh))
    have hok : m.ok = true := by
      cases hb : m.ok
      · exact absurd (Or.inr (Or.inr hb)) h0
      · rfl
    obtain ⟨p, c, f1, f2, f3, f4⟩ := hmo.voted hk hok
    have hcq : c = q := by
      have := hm.to_
      rw [f2, id0] at this
      omega
    subst hcq
    have hp : m.from_.toNat = p := by omega
    rw [hp]
    have hokv := ok0.voted hm
    rw [hp] at hokv
    obtain ⟨c1, c2, c3, c4⟩ := h.v3 c hq hr
    have hset : Inv n (upd rs c { rs c with votes := (rs c).votes ||| 2 ^ p }) g := by
      refine h.set hq hokv rfl rfl rfl (fun _ => ⟨fun i hi hb => ?_, c2, c3, c4⟩) (fun hh => by simp [hr] at hh) (h.c9 c hq)
      simp only at hb ⊢
      rw [Nat.testBit_or, Bool.or_eq_true, testBit_pow, decide_eq_true_eq] at hb
      rcases hb with hb | hb
      · exact c1 i hi hb
      · subst hb
        rw [← ht]
        exact f4
    split
    · exact ⟨g, hset, Ext.refl g, fun _ hm' => by cases hm'⟩
    · rename_i hmaj
      have hr2 : (upd rs c { rs c with votes := (rs c).votes ||| 2 ^ p } c).role = 2 := by rw [upd_self]; exact hr
      obtain ⟨g', i1, i2⟩ := hset.elect hq hr2 (by
        have hv := hset.v3 c hq hr2
        rw [upd_self] at hv ⊢
        refine ⟨fun i => ((rs c).votes ||| 2 ^ p).testBit i, fun i hi hb => hv.1 i hi hb, ?_⟩
        rw [cntV_cnt, n0] at hmaj
        omega)
      rw [upd_self, upd_upd] at i1
      refine ⟨g', i1, i2, ?_⟩
      have := i1.toAll hq (by rw [upd_self]; rfl)
      rw [upd_self] at this
      exact this
theorem Inv.onStored (h : Inv n rs g) {q : Nat} (hq : q < n) {m : Ms} (hm : Proper (rs q) m) (hk : m.kind = 4) (hmo : MsgOk n g m) :
    ∃ g', Inv n (upd rs q ((rs q).onStored m).1) g' ∧ Ext g g' ∧ ∀ m' ∈ ((rs q).onStored m).2, MsgOk n g' m' := by
  obtain ⟨ok0, id0, n0⟩ := h.ok q hq
  unfold Rs.onStored
  split
  · rw [upd_id]; exact ⟨g, h, Ext.refl g, fun _ hm' => by cases hm'⟩
  · rename_i h0
    have hr : (rs q).role = 3 := by
      apply Classical.byContradiction
      intro hh; exact h0 (.inl hh)
    have ht : m.term = (rs q).js.term := by
      apply Classical.byContradiction
      intro hh; exact h0 (.inr hh)
    have hv5 := h.v5 q hq hr
    split
    · have hset : Inv n (upd rs q { rs q with next := setAt (rs q).next m.from_.toNat (min ((rs q).next m.from_.toNat - 1) m.index.toNat) }) g := by
        refine h.set hq ⟨ok0.log, ok0.lo, ok0.hi, ok0.vlo, ok0.vhi, ok0.idn, ok0.five, ok0.role, ok0.com, ok0.vts, fun hh i => ?_, ok0.mts⟩ rfl rfl rfl (fun hh => by simp [hr] at hh) (fun _ => hv5) (h.c9 q hq)
        simp only [setAt]
        have := ok0.nxt hr i
        have := ok0.nxt hr m.from_.toNat
        split <;> omega
      refine ⟨g, hset, Ext.refl g, fun m' hm' => ?_⟩
      simp only [List.mem_singleton] at hm'
      subst hm'
      have := hset.app hq (by rw [upd_self]; exact hr) m.from_.toNat
      rw [upd_self] at this
      exact this
    · rename_i hok
      split
      · rename_i hidx
        have hset : Inv n (upd rs q { rs q with mtch := setAt (rs q).mtch m.from_.toNat (max ((rs q).mtch m.from_.toNat) m.index.toNat), next := setAt (rs q).next m.from_.toNat (max ((rs q).mtch m.from_.toNat) m.index.toNat) }) g := by
          refine h.set hq ⟨ok0.log, ok0.lo, ok0.hi, ok0.vlo, ok0.vhi, ok0.idn, ok0.five, ok0.role, ok0.com, ok0.vts, fun hh i => ?_, fun hh i => ?_⟩ rfl rfl rfl (fun hh => by simp [hr] at hh) (fun _ => ⟨hv5.1, hv5.2.1, fun i hi hiq => ?_⟩) (h.c9 q hq)
          · simp only [setAt]
            have := ok0.nxt hr i
            have := ok0.mts hr m.from_.toNat
            split <;> omega
          · simp only [setAt]
            have := ok0.mts hr i
            have := ok0.mts hr m.from_.toNat
            split <;> omega
          · simp only [setAt]
            split
            · rename_i he
              subst he
              have h1 := hv5.2.2 m.from_.toNat hi hiq
              obtain ⟨p, j, f1, f2, f3, f4⟩ := hmo.stored hk (by cases hb : m.ok; exact absurd hb hok; rfl)
              have hp : m.from_.toNat = p := by omega
              rw [hp] at h1 ⊢
              rw [ht] at f4
              omega
            · exact hv5.2.2 i hi hiq
        have hadv := hset.advance hq (by rw [upd_self]; exact hr)
        rw [upd_self, upd_upd] at hadv
        exact ⟨g, hadv, Ext.refl g, fun _ hm' => by cases hm'⟩
      · rw [upd_id]; exact ⟨g, h, Ext.refl g, fun _ hm' => by cases hm'⟩

theorem Inv.takes (h : Inv n rs g) {q : Nat} (hq : q < n) {m : Ms} (hm : Proper (rs q) m) (ht : m.term ≤ (rs q).js.term) (hmo : MsgOk n g m) :
    ∃ g', Inv n (upd rs q ((rs q).takes m).1) g' ∧ Ext g g' ∧ ∀ m' ∈ ((rs q).takes m).2, MsgOk n g' m' := by
  unfold Rs.takes
  split
  · rename_i hk; exact h.onVote hq hm hk hmo
  · split
    · rename_i hk; exact h.onVoted hq hm hk hmo
    · split
      · rename_i hk; exact h.onAppend hq hm hk ht hmo
      · rename_i h1 h2 h3
        exact h.onStored hq hm (by have := hm.k; omega) hmo
theorem Inv.handle (h : Inv n rs g) {q : Nat} (hq : q < n) {m : Ms} (hmo : MsgOk n g m) :
    ∃ g', Inv n (upd rs q ((rs q).handle m).1) g' ∧ Ext g g' ∧ ∀ m' ∈ ((rs q).handle m).2, MsgOk n g' m' := by
  unfold Rs.handle
  split
  · rw [upd_id]; exact ⟨g, h, Ext.refl g, fun _ hm' => by cases hm'⟩
  · rename_i hp
    have hm : Proper (rs q) m := Rs.proper_iff.1 (by simpa using hp)
    have h1 : Inv n (upd rs q ((rs q).meets m.term)) g := by
      unfold Rs.meets
      split
      · rename_i hlt; exact h.bump hq m.term hlt hm.t1
      · rw [upd_id]; exact h
    have := h1.takes hq (m := m) (by rw [upd_self]; exact hm.of_meets m.term) (by rw [upd_self]; exact (meets_term _ _).1) hmo
    rw [upd_self, upd_upd] at this
    exact this
theorem Inv.crash (h : Inv n rs g) {q : Nat} (hq : q < n) : Inv n (upd rs q (rs q).crash) g := by
  obtain ⟨ok0, -, -⟩ := h.ok q hq
  exact h.set hq ok0.crash rfl rfl rfl (fun hh => by simp [Rs.crash] at hh) (fun hh => by simp [Rs.crash] at hh) (by
    show Cmt n g (List.take 0 _)
    rw [List.take_zero]; exact cmt_nil)
theorem Inv.propose (h : Inv n rs g) {q : Nat} (hq : q < n) (e : En) (he : e.ok) :
    ∃ g', Inv n (upd rs q ((rs q).propose e).1) g' ∧ Ext g g' ∧ ∀ m' ∈ ((rs q).propose e).2, MsgOk n g' m' := by
  obtain ⟨ok0, id0, n0⟩ := h.ok q hq
  have hrok := ok0.proposed e he
  unfold Rs.propose
  split
  · rename_i h0
    unfold Rs.propX at h0
    have hr : (rs q).role = 3 := by
      apply Classical.byContradiction
      intro hh
      rw [if_pos hh] at h0
      exact absurd h0 (by decide)
    rw [if_neg (by simpa using hr)] at h0
    have hadd := addS_yes h0
    have hpok : RsOk { rs q with js := ⟨(rs q).js.term, (rs q).js.vote, (rs q).js.log ++ [⟨(rs q).js.term, e⟩]⟩ } := by
      have hl := ok0.log.add (rs q).js.term e he
      rw [hadd] at hl
      exact ⟨hl, ok0.lo, ok0.hi, ok0.vlo, ok0.vhi, ok0.idn, ok0.five, ok0.role, by simp only [List.length_append]; have := ok0.com; omega, ok0.vts, fun hh i => by simp only [List.length_append]; have := ok0.nxt hr i; omega, fun hh i => by simp only [List.length_append]; have := ok0.mts hr i; omega⟩
    obtain ⟨g', i1, i2⟩ := h.grow hq hr ⟨(rs q).js.term, e⟩ rfl hpok rfl
    have i3 := i1.advance hq (by rw [upd_self]; exact hr)
    rw [upd_self, upd_upd] at i3
    have hpr : (rs q).proposed e = ({ rs q with js := ⟨(rs q).js.term, (rs q).js.vote, (rs q).js.log ++ [⟨(rs q).js.term, e⟩]⟩ } : Rs).advance := by
      unfold Rs.proposed
      rw [hadd]
    rw [hpr]
    refine ⟨g', i3, i2, ?_⟩
    have := i3.toAll hq (by rw [upd_self]; exact hr)
    rw [upd_self] at this
    exact this
  · rw [upd_id]; exact ⟨g, h, Ext.refl g, fun _ hm' => by cases hm'⟩
theorem Inv.beat (h : Inv n rs g) {q : Nat} (hq : q < n) : ∀ m ∈ (rs q).beat, MsgOk n g m := by
  unfold Rs.beat
  split
  · exact fun _ hm => by cases hm
  · rename_i hr
    exact h.toAll hq (by simpa using hr)
theorem Inv.campaign (h : Inv n rs g) {q : Nat} (hq : q < n) :
    ∃ g', Inv n (upd rs q (rs q).campaign.1) g' ∧ Ext g g' ∧ ∀ m' ∈ (rs q).campaign.2, MsgOk n g' m' := by
  obtain ⟨ok0, id0, n0⟩ := h.ok q hq
  have hrok := ok0.campaign
  revert hrok
  unfold Rs.campaign
  split
  · intro _; rw [upd_id]; exact ⟨g, h, Ext.refl g, fun _ hm' => by cases hm'⟩
  · rename_i hT
    have h1 := h.bump hq ((rs q).js.term + 1) (by omega) (by omega)
    have helq : g.el ((rs q).js.term + 1) ≠ some q := by
      intro hh
      obtain ⟨-, k2⟩ := h.v4 _ _ hh
      obtain ⟨i, hi, k3, -⟩ := k2.meet k2
      obtain ⟨-, k4, -⟩ := h.v8 i _ q hi k3
      rw [h.v2 q hq _ (by omega)] at k4
      cases k4
    obtain ⟨g', i1, i2, i3, i4, i5⟩ := h1.votes hq q hq (by rw [upd_self]) (.inr ⟨rfl, fun x hx => by
      rw [upd_self] at hx ⊢
      have := (ok0.log.each x hx).2.1
      simp only; omega⟩)
    rw [upd_self, upd_upd] at i1
    rw [upd_self] at i3 i4
    simp only at i1 i3 i4
    have hcb : ∀ i, ((2 : Nat) ^ q).testBit i = true → i = q := fun i hb => by
      rw [testBit_pow, decide_eq_true_eq] at hb
      exact hb.symm
    have hrok2 : RsOk { rs q with js := ⟨(rs q).js.term + 1, q, (rs q).js.log⟩, role := 2, votes := 2 ^ q } := by
      have hid := ok0.idn
      have h5 := ok0.five
      have hlo := ok0.lo
      rw [id0] at hid
      exact ⟨ok0.log.up (by simp only; omega), by simp only; omega, by simp only; omega, by simp only; omega, by simp only; omega, ok0.idn, ok0.five, .inr (.inl rfl), ok0.com, by
        have : (2 : Nat) ^ q < 2 ^ 5 := Nat.pow_lt_pow_right (by omega) (by omega)
        simpa using this, fun hh => by simp at hh, fun hh => by simp at hh⟩
    have i6 : Inv n (upd rs q { rs q with js := ⟨(rs q).js.term + 1, q, (rs q).js.log⟩, role := 2, votes := 2 ^ q }) g' := by
      have := i1.set hq (r := { rs q with js := ⟨(rs q).js.term + 1, q, (rs q).js.log⟩, role := 2, votes := 2 ^ q }) hrok2 (by rw [upd_self]) (by rw [upd_self]) (by rw [upd_self])
        (fun _ => ⟨fun i hi hb => by rw [hcb i hb]; exact i3, i3, i4, by rw [i5]; exact helq⟩) (fun hh => by simp at hh) ((h.c9 q hq).ext i2)
      rw [upd_upd] at this
      exact this
    have hq1 : ((rs q).id : Int) = (q : Int) := by rw [id0]
    have hq2 : 2 ^ (rs q).id = 2 ^ q := by rw [id0]
    rw [hq1, hq2]
    split
    · rename_i hn1
      intro _
      obtain ⟨g2, j1, j2⟩ := i6.elect hq (by rw [upd_self]) (by
        rw [upd_self]
        have hq0 : q = 0 := by omega
        have hnn : n = 1 := by omega
        subst hnn hq0
        exact ⟨fun _ => true, fun i hi _ => by obtain rfl : i = 0 := by omega
                                               exact i3, by decide⟩)
      rw [upd_self, upd_upd] at j1
      exact ⟨g2, j1, i2.trans j2, fun _ hm' => by cases hm'⟩
    · intro _
      refine ⟨g', i6, i2, fun m' hm' => ?_⟩
      obtain ⟨dst, -, rfl⟩ := List.mem_map.1 hm'
      refine ⟨(fun x hx => by cases hx), fun _ => ⟨q, hq, by simp [Rs.vote, id0], i3, ?_, ?_⟩, fun hh => by simp [Rs.vote] at hh, fun hh => by simp [Rs.vote] at hh, fun hh => by simp [Rs.vote] at hh⟩
      · show ((rs q).js.log.length : Int) = (g'.vl q ((rs q).js.term + 1)).length
        rw [i4]
      · show lastT (rs q).js.log = lastT (g'.vl q ((rs q).js.term + 1))
        rw [i4]

/-- Two logs with an entry of one index and one term are equal up dst it. -/
theorem Inv.matches (h : Inv n rs g) {a b : Nat} (ha : a < n) (hb : b < n) {i : Nat} {x y : Lg} (hx : (rs a).js.log[i]? = some x) (hy : (rs b).js.log[i]? = some y) (he : x.term = y.term) : (rs a).js.log.take (i + 1) = (rs b).js.log.take (i + 1) :=
  (h.l1 a ha).agree (h.l1 b hb) hx hy he
/-- What is committed is one list. -/
theorem Inv.chain (h : Inv n rs g) {a b : List Lg} (ha : Cmt n g a) (hb : Cmt n g b) : a <+: b ∨ b <+: a := by
  rcases ha with rfl | ⟨T, L, h1, h2⟩
  · exact .inl List.nil_prefix
  · rcases hb with rfl | ⟨T', L', k1, k2⟩
    · exact .inr List.nil_prefix
    · have hone : ∀ T T' L L' (a b : List Lg), Com n g T L → Com n g T' L' → a <+: (g.gl T).take L → b <+: (g.gl T').take L' → T ≤ T' → a <+: b ∨ b <+: a := by
        intro T T' L L' a b h1 k1 h2 k2 hle
        have e1 : a <+: g.gl T' := by
          rcases Int.lt_or_eq_of_le hle with hlt | rfl
          · have hel : g.el T' ≠ none := by
              intro h0
              have := k1.1.2.1
              rw [h.a5 _ h0] at this
              have := k1.1.1
              simp at *
              omega
            exact h2.trans (h.i5 T T' L hlt hel h1.1 (h1.2.mono fun i _ hi => .inl hi))
          · exact h2.trans (take_pre _ _)
        have e2 : b <+: g.gl T' := k2.trans (take_pre _ _)
        rcases Nat.le_total a.length b.length with hl | hl
        · exact .inl (pre_both e1 e2 hl)
        · exact .inr (pre_both e2 e1 hl)
      rcases Int.le_total T T' with hle | hle
      · exact hone T T' L L' a b h1 k1 h2 k2 hle
      · exact (hone T' T L' L b a k1 h1 k2 h2 hle).symm
/-- The beginning. -/
def gh0 : Gh := ⟨fun _ => none, fun _ => [], fun _ _ => 0, fun _ _ => none, fun _ _ => []⟩
theorem Inv.new {n : Nat} (hn : n ≤ 5) : Inv n (fun q => repNew q n) gh0 := by
  have hm : ∀ T L, ¬ Mark gh0 T L := fun T L hm => by
    obtain ⟨m1, m2, -⟩ := hm
    simp [gh0] at m2
    omega
  refine ⟨fun q hq => ⟨RsOk.new hq hn, rfl, rfl⟩, fun q _ => by simp [repNew, gh0], fun q _ T _ => rfl, fun c _ hr => by simp [repNew] at hr, fun T c hh => by simp [gh0] at hh, fun c _ hr => by simp [repNew] at hr, fun q T c _ hh => by simp [gh0] at hh, fun q _ i x hx => by simp [repNew] at hx, fun T => ⟨fun i x hx => by simp [gh0] at hx, LogOk.nil T⟩, fun q T _ hh => absurd rfl hh, fun q T => Nat.le_refl _, fun q _ T hh => by simp [gh0] at hh, fun q _ => by simp [gh0], fun T c hh => by simp [gh0] at hh, fun T _ => rfl,
    fun T T' L _ _ c _ => absurd c (hm T L), fun q _ T L c _ _ => absurd c (hm T L), fun q _ T T' L _ _ c _ _ => absurd c (hm T L), fun q _ => .inl rfl⟩
end
end Go.Proofs.Ytokblidfekbeeaa
/- The plain law of a quorum: what its acts do. -/
namespace Go.Proofs.Ytokblidfekbeeaa
set_option linter.unusedVariables false

/-- A set of replicas, the messages in flight, and what has been committed. -/
structure Qs where
  n : Nat
  rs : Nat → Rs
  net : List Ms
  done : List En
def quoNew (n : Nat) : Qs := ⟨n, fun q => repNew q n, [], []⟩
def sendOne (net : List Ms) (m : Ms) : List Ms := (if 256 ≤ net.length then net.drop 1 else net) ++ [m]
def sendAll (net l : List Ms) : List Ms := l.foldl sendOne net
def noteG (rs : Nat → Rs) (d : List En) : Nat → List En
  | 0 => d
  | k + 1 => if (rs k).commit ≤ (noteG rs d k).length then noteG rs d k else ((rs k).js.log.take (rs k).commit).map (·.e)
def Qs.note (q : Qs) : Qs := { q with done := noteG q.rs q.done q.n }
/-- Replica i has turned, and what it answers is sent. -/
def Qs.put (q : Qs) (i : Nat) (x : Rs × List Ms) : Qs := { q with rs := upd q.rs i x.1, net := sendAll q.net x.2 }
def Qs.remove (q : Qs) (i : Nat) : Qs := { q with net := q.net.eraseIdx i }
def Qs.give (q : Qs) (m : Ms) : Qs := q.put m.to_.toNat ((q.rs m.to_.toNat).handle m)
def Qs.permits (q : Qs) (kind who num : Int) : Bool :=
  if kind = 1 ∨ kind = 2 ∨ kind = 3 ∨ kind = 7 then decide (0 ≤ who ∧ who < q.n) else
  if kind = 4 ∨ kind = 5 ∨ kind = 6 then decide (0 ≤ num ∧ num < q.net.length) else false
def noMs : Ms := ⟨0, 0, 0, 0, 0, 0, 0, false, []⟩
def Qs.at_ (q : Qs) (i : Int) : Ms := (q.net[i.toNat]?).getD noMs
/-- What an act answers. -/
def Qs.actX (q : Qs) (kind who num : Int) (e : En) : Int :=
  if q.permits kind who num = false then 1 else if kind = 2 then (q.rs who.toNat).propX e else 0
def Qs.act (q : Qs) (kind who num : Int) (e : En) : Qs :=
  if q.actX kind who num e ≠ 0 then q else
  (if kind = 1 then q.put who.toNat (q.rs who.toNat).campaign else
   if kind = 2 then q.put who.toNat ((q.rs who.toNat).propose e) else
   if kind = 3 then q.put who.toNat (q.rs who.toNat, (q.rs who.toNat).beat) else
   if kind = 4 then (q.remove num.toNat).give (q.at_ num) else
   if kind = 5 then q.give (q.at_ num) else
   if kind = 6 then q.remove num.toNat else q.put who.toNat ((q.rs who.toNat).crash, [])).note
/-- Whether both ends of a message belong dst a set. -/
def inUp (up : Int) (m : Ms) : Prop := ¬ ((up >>> m.from_.toNat) % 2 = 0 ∨ (up >>> m.to_.toNat) % 2 = 0)
instance (up : Int) (m : Ms) : Decidable (inUp up m) := by unfold inUp; infer_instance
/-- The messages are delivered from the front, until there are none or 5000 have been delivered. -/
inductive Flushes (up : Int) : Qs → Nat → Qs → Nat → Prop
  | stop (q : Qs) (k : Nat) (h : q.net = [] ∨ 5000 ≤ k) : Flushes up q k q k
  | skip (q : Qs) (k : Nat) (m : Ms) (l : List Ms) (q' : Qs) (k' : Nat) (hk : k < 5000) (hm : q.net = m :: l) (h : ¬ inUp up m) (hn : Flushes up (q.remove 0) k q' k') : Flushes up q k q' k'
  | give (q : Qs) (k : Nat) (m : Ms) (l : List Ms) (q' : Qs) (k' : Nat) (hk : k < 5000) (hm : q.net = m :: l) (h : inUp up m) (hn : Flushes up ((q.remove 0).give m).note (k + 1) q' k') : Flushes up q k q' k'

/-- The messages that a net of n replicas has. -/
structure MsgTo (n : Nat) (m : Ms) : Prop where
  to_ : ∃ t : Nat, t < n ∧ m.to_ = t
  from_ : ∃ t : Nat, t < n ∧ m.from_ = t
  es : ∀ x ∈ m.es, x.e.ok
  few : m.es.length ≤ 4096
structure QsOk (q : Qs) : Prop where
  pos : 0 < q.n
  five : q.n ≤ 5
  each : ∀ i, i < q.n → RsOk (q.rs i) ∧ (q.rs i).id = i ∧ (q.rs i).n = q.n
  net : q.net.length ≤ 256
  msgs : ∀ m ∈ q.net, MsgTo q.n m
  done : q.done.length ≤ 4096

theorem sendOne_len (net : List Ms) (m : Ms) (h : net.length ≤ 256) : (sendOne net m).length ≤ 256 := by
  unfold sendOne
  split <;> simp <;> omega
theorem sendOne_mem {net : List Ms} {m x : Ms} (h : x ∈ sendOne net m) : x ∈ net ∨ x = m := by
  unfold sendOne at h
  rcases List.mem_append.1 h with h | h
  · split at h
    · exact .inl (List.mem_of_mem_drop h)
    · exact .inl h
  · simp at h; exact .inr h
theorem sendAll_len (l : List Ms) : ∀ net : List Ms, net.length ≤ 256 → (sendAll net l).length ≤ 256 := by
  induction l with
  | nil => exact fun net h => h
  | cons m l ih => exact fun net h => ih _ (sendOne_len net m h)
theorem sendAll_mem (l : List Ms) : ∀ {net : List Ms} {x : Ms}, x ∈ sendAll net l → x ∈ net ∨ x ∈ l := by
  induction l with
  | nil => exact fun h => .inl h
  | cons m l ih =>
    intro net x h
    rcases ih (show x ∈ sendAll (sendOne net m) l from h) with h | h
    · rcases sendOne_mem h with h | h
      · exact .inl h
      · exact .inr (by rw [h]; simp)
    · exact .inr (by simp [h])
theorem sendAll_snoc (net l : List Ms) (m : Ms) : sendAll net (l ++ [m]) = sendOne (sendAll net l) m := by simp [sendAll]
theorem noteG_len {rs : Nat → Rs} {d : List En} (hd : d.length ≤ 4096) : ∀ k, (∀ i, i < k → RsOk (rs i)) → (noteG rs d k).length ≤ 4096 := by
  intro k
  induction k with
  | zero => exact fun _ => hd
  | succ k ih =>
    intro h
    simp only [noteG]
    split
    · exact ih fun i hi => h i (by omega)
    · have := (h k (by omega)).log.few
      simp only [List.length_map, List.length_take]
      omega

section
variable {r : Rs}
theorem RsOk.app_to (h : RsOk r) {dst : Nat} (hto : dst < r.n) : MsgTo r.n (r.app dst) :=
  ⟨⟨dst, hto, rfl⟩, ⟨r.id, h.idn, rfl⟩, fun x hx => (h.log.each x (List.mem_of_mem_drop hx)).2.2.2, by
    show (r.js.log.drop (r.next dst)).length ≤ 4096
    have := h.log.few
    rw [List.length_drop]
    omega⟩
theorem RsOk.toAll_to (h : RsOk r) : ∀ m ∈ r.toAll, MsgTo r.n m := by
  intro m hm
  unfold Rs.toAll at hm
  obtain ⟨dst, h1, rfl⟩ := List.mem_map.1 hm
  exact h.app_to (others_mem.1 h1).1
theorem MsgTo.plain {n : Nat} {m : Ms} (h1 : ∃ t : Nat, t < n ∧ m.to_ = t) (h2 : ∃ t : Nat, t < n ∧ m.from_ = t) (h3 : m.es = []) : MsgTo n m := ⟨h1, h2, (fun x hx => by rw [h3] at hx; cases hx), by rw [h3]; simp⟩
theorem Proper.from_nat {m : Ms} (hm : Proper r m) : ∃ t : Nat, t < r.n ∧ m.from_ = t := ⟨m.from_.toNat, by have := hm.f0; have := hm.f1; omega, by have := hm.f0; omega⟩
theorem answer_to (h : RsOk r) {m : Ms} (hm : Proper r m) (i : Int) (ok : Bool) : ∀ x ∈ r.answer m.from_ i ok, MsgTo r.n x := by
  intro x hx
  simp only [Rs.answer, List.mem_singleton] at hx
  subst hx
  exact MsgTo.plain hm.from_nat ⟨r.id, h.idn, rfl⟩ rfl
theorem RsOk.onAppend_to (h : RsOk r) {m : Ms} (hm : Proper r m) : ∀ x ∈ (r.onAppend m).2, MsgTo r.n x := by
  unfold Rs.onAppend
  split
  · exact answer_to h hm _ _
  · split
    · exact fun x hx => by cases hx
    · split
      · exact answer_to h hm _ _
      · split
        · split
          · exact fun x hx => by cases hx
          · exact answer_to h hm _ _
        · exact answer_to h hm _ _
theorem RsOk.takes_to (h : RsOk r) {m : Ms} (hm : Proper r m) : ∀ x ∈ (r.takes m).2, MsgTo r.n x := by
  unfold Rs.takes
  split
  · unfold Rs.onVote
    intro x hx
    simp only [List.mem_singleton] at hx
    subst hx
    exact MsgTo.plain hm.from_nat ⟨r.id, h.idn, rfl⟩ rfl
  · split
    · unfold Rs.onVoted
      split
      · exact fun x hx => by cases hx
      · split
        · exact fun x hx => by cases hx
        · exact (h.voted hm).lead.toAll_to
    · split
      · exact h.onAppend_to hm
      · have hs := h.onStored (m := m)
        revert hs
        unfold Rs.onStored
        split
        · exact fun _ x hx => by cases hx
        · split
          · intro hs x hx
            simp only [List.mem_singleton] at hx
            subst hx
            have h0 := hm.f0
            have h1 := hm.f1
            exact hs.app_to (dst := m.from_.toNat) (by simp only; omega)
          · split
            · exact fun _ x hx => by cases hx
            · exact fun _ x hx => by cases hx
theorem RsOk.handle_to (h : RsOk r) {m : Ms} : ∀ x ∈ (r.handle m).2, MsgTo r.n x := by
  unfold Rs.handle
  split
  · exact fun x hx => by cases hx
  · rename_i hp
    have hm : Proper r m := Rs.proper_iff.1 (by simpa using hp)
    have := (h.meets m.term hm.t1).takes_to (hm.of_meets m.term)
    rw [(meets_eq r m.term).2.1] at this
    exact this
theorem RsOk.campaign_to (h : RsOk r) : ∀ x ∈ r.campaign.2, MsgTo r.n x := by
  unfold Rs.campaign
  split
  · exact fun x hx => by cases hx
  · split
    · exact fun x hx => by cases hx
    · intro x hx
      obtain ⟨dst, h1, rfl⟩ := List.mem_map.1 hx
      exact MsgTo.plain ⟨dst, (others_mem.1 h1).1, rfl⟩ ⟨r.id, h.idn, rfl⟩ rfl
theorem RsOk.propose_to (h : RsOk r) (e : En) (he : e.ok) : ∀ x ∈ (r.propose e).2, MsgTo r.n x := by
  unfold Rs.propose
  split
  · exact (h.proposed e he).toAll_to
  · exact fun x hx => by cases hx
theorem RsOk.beat_to (h : RsOk r) : ∀ x ∈ r.beat, MsgTo r.n x := by
  unfold Rs.beat
  split
  · exact fun x hx => by cases hx
  · exact h.toAll_to
theorem campaign_n (r : Rs) : r.campaign.1.id = r.id ∧ r.campaign.1.n = r.n := by
  unfold Rs.campaign
  split
  · exact ⟨rfl, rfl⟩
  · split <;> exact ⟨rfl, rfl⟩
theorem propose_n (r : Rs) (e : En) : (r.propose e).1.id = r.id ∧ (r.propose e).1.n = r.n := by
  unfold Rs.propose
  split <;> exact ⟨rfl, rfl⟩
theorem onAppend_n (r : Rs) (m : Ms) : (r.onAppend m).1.id = r.id ∧ (r.onAppend m).1.n = r.n := by
  unfold Rs.onAppend
  split
  · exact ⟨rfl, rfl⟩
  · split
    · exact ⟨rfl, rfl⟩
    · split
      · exact ⟨rfl, rfl⟩
      · split
        · split <;> exact ⟨rfl, rfl⟩
        · exact ⟨rfl, rfl⟩
theorem takes_n (r : Rs) (m : Ms) : (r.takes m).1.id = r.id ∧ (r.takes m).1.n = r.n := by
  unfold Rs.takes
  split
  · unfold Rs.onVote
    simp only
    split <;> exact ⟨rfl, rfl⟩
  · split
    · unfold Rs.onVoted
      split
      · exact ⟨rfl, rfl⟩
      · split <;> exact ⟨rfl, rfl⟩
    · split
      · exact onAppend_n r m
      · unfold Rs.onStored
        split
        · exact ⟨rfl, rfl⟩
        · split
          · exact ⟨rfl, rfl⟩
          · split <;> exact ⟨rfl, rfl⟩
theorem handle_n (r : Rs) (m : Ms) : (r.handle m).1.id = r.id ∧ (r.handle m).1.n = r.n := by
  unfold Rs.handle
  split
  · exact ⟨rfl, rfl⟩
  · have := takes_n (r.meets m.term) m
    have h2 := meets_eq r m.term
    exact ⟨this.1.trans h2.1, this.2.trans h2.2.1⟩
end

section
variable {q : Qs}
theorem QsOk.put (h : QsOk q) {i : Nat} (hi : i < q.n) {x : Rs × List Ms} (h1 : RsOk x.1) (h2 : x.1.id = (q.rs i).id) (h3 : x.1.n = (q.rs i).n) (h4 : ∀ m ∈ x.2, MsgTo q.n m) : QsOk (q.put i x) := by
  refine ⟨h.pos, h.five, fun j hj => ?_, sendAll_len _ _ h.net, fun m hm => ?_, h.done⟩
  · show RsOk (upd q.rs i x.1 j) ∧ (upd q.rs i x.1 j).id = j ∧ (upd q.rs i x.1 j).n = q.n
    by_cases e : j = i
    · subst e
      rw [upd_self, h2, h3]
      exact ⟨h1, (h.each j hj).2⟩
    · rw [upd_ne e]; exact h.each j hj
  · rcases sendAll_mem _ hm with hm | hm
    · exact h.msgs m hm
    · exact h4 m hm
theorem QsOk.remove (h : QsOk q) (i : Nat) : QsOk (q.remove i) :=
  ⟨h.pos, h.five, h.each, by
    show (q.net.eraseIdx i).length ≤ 256
    have := h.net
    have := List.length_eraseIdx_le q.net i
    omega, fun m hm => h.msgs m (List.mem_of_mem_eraseIdx hm), h.done⟩
theorem QsOk.note (h : QsOk q) : QsOk q.note := ⟨h.pos, h.five, h.each, h.net, h.msgs, noteG_len h.done _ fun i hi => (h.each i hi).1⟩
theorem QsOk.give (h : QsOk q) {m : Ms} (hm : MsgTo q.n m) : QsOk (q.give m) := by
  obtain ⟨t, ht, he⟩ := hm.to_
  unfold Qs.give
  rw [he, Int.toNat_natCast]
  obtain ⟨h1, h2, h3⟩ := h.each t ht
  obtain ⟨n1, n2⟩ := handle_n (q.rs t) m
  exact h.put ht (h1.handle hm.es) n1 n2 (by have := h1.handle_to (m := m); rw [h3] at this; exact this)
theorem at_mem {q : Qs} {i : Int} (h0 : 0 ≤ i) (h1 : i < q.net.length) : q.at_ i ∈ q.net ∧ q.net[i.toNat]? = some (q.at_ i) := by
  unfold Qs.at_
  obtain ⟨x, hx⟩ : ∃ x, q.net[i.toNat]? = some x := ⟨_, List.getElem?_eq_getElem (by omega)⟩
  rw [hx]
  exact ⟨List.mem_of_getElem? hx, rfl⟩
theorem permits_who {q : Qs} {kind who num : Int} (h : q.permits kind who num = true) (hk : kind = 1 ∨ kind = 2 ∨ kind = 3 ∨ kind = 7) : 0 ≤ who ∧ who < q.n := by
  unfold Qs.permits at h
  rw [if_pos hk] at h
  simpa using h
theorem permits_num {q : Qs} {kind who num : Int} (h : q.permits kind who num = true) (hk : kind = 4 ∨ kind = 5 ∨ kind = 6) : 0 ≤ num ∧ num < q.net.length := by
  unfold Qs.permits at h
  rw [if_neg (by omega), if_pos hk] at h
  simpa using h
theorem permits_kind {q : Qs} {kind who num : Int} (h : q.permits kind who num = true) : (kind = 1 ∨ kind = 2 ∨ kind = 3 ∨ kind = 7) ∨ (kind = 4 ∨ kind = 5 ∨ kind = 6) := by
  unfold Qs.permits at h
  split at h
  · exact .inl ‹_›
  · split at h
    · exact .inr ‹_›
    · cases h
theorem actX_permits {q : Qs} {kind who num : Int} {e : En} (h : ¬ q.actX kind who num e ≠ 0) : q.permits kind who num = true := by
  cases hp : q.permits kind who num
  · exact absurd (by unfold Qs.actX; rw [if_pos hp]; decide) h
  · rfl
theorem QsOk.act (h : QsOk q) (kind who num : Int) (e : En) (he : e.ok) : QsOk (q.act kind who num e) := by
  unfold Qs.act
  split
  · exact h
  · rename_i h0
    have hp := actX_permits h0
    have hw : (kind = 1 ∨ kind = 2 ∨ kind = 3 ∨ kind = 7) → who.toNat < q.n := fun hk => by have := permits_who hp hk; omega
    apply QsOk.note
    split
    · rename_i hk
      have hi := hw (.inl hk)
      obtain ⟨h1, h2, h3⟩ := h.each _ hi
      obtain ⟨n1, n2⟩ := campaign_n (q.rs who.toNat)
      exact h.put hi h1.campaign n1 n2 (by have := h1.campaign_to; rw [h3] at this; exact this)
    · split
      · rename_i hk
        have hi := hw (.inr (.inl hk))
        obtain ⟨h1, h2, h3⟩ := h.each _ hi
        obtain ⟨n1, n2⟩ := propose_n (q.rs who.toNat) e
        exact h.put hi (h1.propose e he) n1 n2 (by have := h1.propose_to e he; rw [h3] at this; exact this)
      · split
        · rename_i hk
          have hi := hw (.inr (.inr (.inl hk)))
          obtain ⟨h1, h2, h3⟩ := h.each _ hi
          exact h.put hi h1 rfl rfl (by have := h1.beat_to; rw [h3] at this; exact this)
        · split
          · rename_i hk
            obtain ⟨k1, k2⟩ := permits_num hp (.inl hk)
            exact (h.remove _).give (h.msgs _ (at_mem k1 k2).1)
          · split
            · rename_i hk
              obtain ⟨k1, k2⟩ := permits_num hp (.inr (.inl hk))
              exact h.give (h.msgs _ (at_mem k1 k2).1)
            · split
              · exact h.remove _
              · have hi := hw (by rcases permits_kind hp with hh | hh <;> omega)
                obtain ⟨h1, h2, h3⟩ := h.each _ hi
                exact h.put hi h1.crash rfl rfl (fun m hm => by cases hm)

/-- What the whole of a script keeps. -/
structure QInv (q : Qs) (g : Gh) : Prop where
  ok : QsOk q
  inv : Inv q.n q.rs g
  msgs : ∀ m ∈ q.net, MsgOk q.n g m
  done : ∃ l, Cmt q.n g l ∧ q.done = l.map (·.e)
  most : ∀ i, i < q.n → (q.rs i).commit ≤ q.done.length
/-- The same, before what is committed now was taken over. -/
structure QPre (q : Qs) (g : Gh) : Prop where
  ok : QsOk q
  inv : Inv q.n q.rs g
  msgs : ∀ m ∈ q.net, MsgOk q.n g m
  done : ∃ l, Cmt q.n g l ∧ q.done = l.map (·.e)
variable {g g' : Gh}
theorem QInv.pre (h : QInv q g) : QPre q g := ⟨h.ok, h.inv, h.msgs, h.done⟩
theorem noteG_inv (h : Inv q.n q.rs g) {d : List En} (hd : ∃ l, Cmt q.n g l ∧ d = l.map (·.e)) : ∀ k, k ≤ q.n → (∃ l, Cmt q.n g l ∧ noteG q.rs d k = l.map (·.e)) ∧ d <+: noteG q.rs d k ∧ ∀ i, i < k → (q.rs i).commit ≤ (noteG q.rs d k).length := by
  intro k
  induction k with
  | zero => exact fun _ => ⟨hd, List.prefix_refl _, fun i hi => by omega⟩
  | succ k ih =>
    intro hk
    obtain ⟨h1, h2, h3⟩ := ih (by omega)
    simp only [noteG]
    split
    · rename_i hc
      exact ⟨h1, h2, fun i hi => by
        rcases Nat.lt_succ_iff_lt_or_eq.1 hi with h4 | h4
        · exact h3 i h4
        · subst h4; exact hc⟩
    · rename_i hc
      obtain ⟨l, l1, l2⟩ := h1
      have hcom := ((h.ok k (by omega)).1).com
      have hlen : ((q.rs k).js.log.take (q.rs k).commit).length = (q.rs k).commit := by rw [List.length_take]; omega
      have hpre : noteG q.rs d k <+: ((q.rs k).js.log.take (q.rs k).commit).map (·.e) := by
        rw [l2] at hc ⊢
        rw [List.length_map] at hc
        rcases h.chain l1 (h.c9 k (by omega)) with h5 | h5
        · exact h5.map _
        · have := h5.length_le
          omega
      refine ⟨⟨_, h.c9 k (by omega), rfl⟩, h2.trans hpre, fun i hi => ?_⟩
      rcases Nat.lt_succ_iff_lt_or_eq.1 hi with h4 | h4
      · exact Nat.le_trans (h3 i h4) hpre.length_le
      · subst h4; rw [List.length_map, hlen]; exact Nat.le_refl _
theorem QPre.note (h : QPre q g) : QInv q.note g ∧ q.done <+: q.note.done := by
  obtain ⟨h1, h2, h3⟩ := noteG_inv h.inv h.done q.n (Nat.le_refl _)
  exact ⟨⟨h.ok.note, h.inv, h.msgs, h1, h3⟩, h2⟩
theorem QPre.put (h : QPre q g) {i : Nat} {x : Rs × List Ms} (hok : QsOk (q.put i x)) (h1 : Inv q.n (upd q.rs i x.1) g') (h2 : Ext g g') (h3 : ∀ m ∈ x.2, MsgOk q.n g' m) : QPre (q.put i x) g' := by
  refine ⟨hok, h1, fun m hm => ?_, ?_⟩
  · rcases sendAll_mem _ hm with hm | hm
    · exact (h.msgs m hm).ext h2
    · exact h3 m hm
  · obtain ⟨l, l1, l2⟩ := h.done
    exact ⟨l, l1.ext h2, l2⟩
theorem QPre.remove (h : QPre q g) (i : Nat) : QPre (q.remove i) g := ⟨h.ok.remove i, h.inv, fun m hm => h.msgs m (List.mem_of_mem_eraseIdx hm), h.done⟩
theorem QPre.give (h : QPre q g) {m : Ms} (hm : MsgTo q.n m) (hmo : MsgOk q.n g m) : ∃ g', QPre (q.give m) g' ∧ Ext g g' := by
  have hok := h.ok.give hm
  obtain ⟨t, ht, he⟩ := hm.to_
  obtain ⟨g', i1, i2, i3⟩ := h.inv.handle ht hmo
  unfold Qs.give at hok ⊢
  rw [he, Int.toNat_natCast] at hok ⊢
  exact ⟨g', h.put hok i1 i2 i3, i2⟩
theorem QInv.act (h : QInv q g) (kind who num : Int) (e : En) (he : e.ok) : ∃ g', QInv (q.act kind who num e) g' ∧ Ext g g' ∧ q.done <+: (q.act kind who num e).done := by
  unfold Qs.act
  split
  · exact ⟨g, h, Ext.refl g, List.prefix_refl _⟩
  · rename_i h0
    have hp := actX_permits h0
    have hw : (kind = 1 ∨ kind = 2 ∨ kind = 3 ∨ kind = 7) → who.toNat < q.n := fun hk => by have := permits_who hp hk; omega
    have hfin : ∀ q', q'.done = q.done → (∃ g', QPre q' g' ∧ Ext g g') → ∃ g', QInv q'.note g' ∧ Ext g g' ∧ q.done <+: q'.note.done := by
      rintro q' hd ⟨g', h1, h2⟩
      obtain ⟨h3, h4⟩ := h1.note
      exact ⟨g', h3, h2, by rw [← hd]; exact h4⟩
    have hput : ∀ i x, i < q.n → RsOk x.1 → x.1.id = (q.rs i).id → x.1.n = (q.rs i).n → (∀ m ∈ x.2, MsgTo (q.rs i).n m) → (∃ g', Inv q.n (upd q.rs i x.1) g' ∧ Ext g g' ∧ ∀ m' ∈ x.2, MsgOk q.n g' m') → ∃ g', QInv (q.put i x).note g' ∧ Ext g g' ∧ q.done <+: (q.put i x).note.done := by
      rintro i x hi k1 k2 k3 k4 ⟨g', i1, i2, i3⟩
      rw [((h.ok.each i hi).2).2] at k4
      exact hfin _ rfl ⟨g', h.pre.put (h.ok.put hi k1 k2 k3 k4) i1 i2 i3, i2⟩
    split
    · rename_i hk
      have hi := hw (.inl hk)
      obtain ⟨h1, h2, h3⟩ := h.ok.each _ hi
      obtain ⟨n1, n2⟩ := campaign_n (q.rs who.toNat)
      exact hput _ _ hi h1.campaign n1 n2 h1.campaign_to (h.inv.campaign hi)
    · split
      · rename_i hk
        have hi := hw (.inr (.inl hk))
        obtain ⟨h1, h2, h3⟩ := h.ok.each _ hi
        obtain ⟨n1, n2⟩ := propose_n (q.rs who.toNat) e
        exact hput _ _ hi (h1.propose e he) n1 n2 (h1.propose_to e he) (h.inv.propose hi e he)
      · split
        · rename_i hk
          have hi := hw (.inr (.inr (.inl hk)))
          obtain ⟨h1, h2, h3⟩ := h.ok.each _ hi
          exact hput _ (q.rs who.toNat, (q.rs who.toNat).beat) hi h1 rfl rfl h1.beat_to ⟨g, by rw [upd_id]; exact h.inv, Ext.refl g, h.inv.beat hi⟩
        · split
          · rename_i hk
            obtain ⟨k1, k2⟩ := permits_num hp (.inl hk)
            exact hfin _ rfl ((h.pre.remove num.toNat).give (h.ok.msgs _ (at_mem k1 k2).1) (h.msgs _ (at_mem k1 k2).1))
          · split
            · rename_i hk
              obtain ⟨k1, k2⟩ := permits_num hp (.inr (.inl hk))
              exact hfin _ rfl (h.pre.give (h.ok.msgs _ (at_mem k1 k2).1) (h.msgs _ (at_mem k1 k2).1))
            · split
              · exact hfin _ rfl ⟨g, h.pre.remove _, Ext.refl g⟩
              · have hi := hw (by rcases permits_kind hp with hh | hh <;> omega)
                obtain ⟨h1, h2, h3⟩ := h.ok.each _ hi
                exact hput _ ((q.rs who.toNat).crash, []) hi h1.crash rfl rfl (fun m hm => by cases hm) ⟨g, h.inv.crash hi, Ext.refl g, fun m hm => by cases hm⟩
theorem QInv.flush {up : Int} {q' : Qs} {k k' : Nat} (hf : Flushes up q k q' k') : ∀ {g : Gh}, QInv q g → ∃ g', QInv q' g' ∧ Ext g g' ∧ q.done <+: q'.done := by
  induction hf with
  | stop q k h0 => exact fun h => ⟨_, h, Ext.refl _, List.prefix_refl _⟩
  | skip q k m l q' k' hk hm h0 hn ih =>
    intro g h
    exact ih ⟨h.ok.remove 0, h.inv, fun m hm => h.msgs m (List.mem_of_mem_eraseIdx hm), h.done, h.most⟩
  | give q k m l q' k' hk hm h0 hn ih =>
    intro g h
    have hmem : m ∈ q.net := by rw [hm]; simp
    obtain ⟨g1, h1, h2⟩ := (h.pre.remove 0).give (h.ok.msgs m hmem) (h.msgs m hmem)
    obtain ⟨h3, h4⟩ := h1.note
    obtain ⟨g2, h5, h6, h7⟩ := ih h3
    exact ⟨g2, h5, h2.trans h6, (show q.done <+: ((q.remove 0).give m).note.done from h4).trans h7⟩
theorem QInv.new {n : Nat} (h0 : 0 < n) (hn : n ≤ 5) : QInv (quoNew n) gh0 :=
  ⟨⟨h0, hn, fun i hi => ⟨RsOk.new hi hn, rfl, rfl⟩, Nat.zero_le _, (fun m hm => by cases hm), Nat.zero_le _⟩, Inv.new hn, fun m hm => (by cases hm), ⟨[], .inl rfl, rfl⟩, fun i _ => Nat.zero_le _⟩
end
end Go.Proofs.Ytokblidfekbeeaa
/- The plain law of a quorum: terms and logs grow by one at most in each act; a leader whose term is the greatest of a majority has all that was committed. -/
namespace Go.Proofs.Ytokblidfekbeeaa
set_option linter.unusedVariables false

/-- Bounds of a replica, of a message, of a quorum. -/
structure RBd (r : Rs) (s : Nat) : Prop where
  term : r.js.term ≤ s
  len : r.js.log.length ≤ s
structure MBd (m : Ms) (s : Nat) : Prop where
  term : m.term ≤ s
  len : m.kind = 3 → m.index + m.es.length ≤ s
structure QBd (q : Qs) (s : Nat) : Prop where
  each : ∀ i, i < q.n → RBd (q.rs i) s
  msgs : ∀ m ∈ q.net, MBd m s
section
variable {r : Rs} {m : Ms} {s t : Nat}
theorem RBd.up (h : RBd r s) (hst : s ≤ t) : RBd r t := ⟨by have := h.term; omega, Nat.le_trans h.len hst⟩
theorem MBd.up (h : MBd m s) (hst : s ≤ t) : MBd m t := ⟨by have := h.term; omega, fun hk => by have := h.len hk; omega⟩
theorem QBd.up {q : Qs} (h : QBd q s) (hst : s ≤ t) : QBd q t := ⟨fun i hi => (h.each i hi).up hst, fun m hm => (h.msgs m hm).up hst⟩
theorem RBd.app (h : RBd r s) (hok : RsOk r) (hr : r.role = 3) (dst : Nat) : MBd (r.app dst) s :=
  ⟨h.term, fun _ => by
    show ((r.next dst : Nat) : Int) + ((r.js.log.drop (r.next dst)).length : Int) ≤ s
    have := hok.nxt hr dst
    have := h.len
    rw [List.length_drop]
    omega⟩
theorem RBd.toAll (h : RBd r s) (hok : RsOk r) (hr : r.role = 3) : ∀ x ∈ r.toAll, MBd x s := by
  intro x hx
  unfold Rs.toAll at hx
  obtain ⟨dst, -, rfl⟩ := List.mem_map.1 hx
  exact h.app hok hr dst
theorem RBd.meets (h : RBd r s) {t : Int} (ht : t ≤ s) : RBd (r.meets t) s := by
  unfold Rs.meets
  split
  · exact ⟨ht, h.len⟩
  · exact h
theorem MBd.plain {m : Ms} {s : Nat} (h : m.term ≤ s) (hk : m.kind ≠ 3) : MBd m s := ⟨h, fun hh => absurd hh hk⟩
theorem RBd.answer (h : RBd r s) (dst i : Int) (ok : Bool) : ∀ x ∈ r.answer dst i ok, MBd x s := by
  intro x hx
  simp only [Rs.answer, List.mem_singleton] at hx
  subst hx
  exact MBd.plain h.term (by simp)
theorem RBd.onVote (h : RBd r s) (hm : m.term ≤ s) : RBd (r.onVote m).1 s ∧ ∀ x ∈ (r.onVote m).2, MBd x s := by
  unfold Rs.onVote
  refine ⟨?_, fun x hx => ?_⟩
  · simp only
    split
    · exact ⟨hm, h.len⟩
    · exact h
  · simp only [List.mem_singleton] at hx
    subst hx
    exact MBd.plain h.term (by simp)
theorem RBd.onVoted (h : RBd r s) (hok : RsOk r) (hp : Proper r m) : RBd (r.onVoted m).1 s ∧ ∀ x ∈ (r.onVoted m).2, MBd x s := by
  unfold Rs.onVoted
  split
  · exact ⟨h, fun x hx => by cases hx⟩
  · split
    · exact ⟨⟨h.term, h.len⟩, fun x hx => by cases hx⟩
    · have hb : RBd ({ r with votes := r.votes ||| 2 ^ m.from_.toNat } : Rs).lead s := ⟨h.term, h.len⟩
      exact ⟨hb, hb.toAll (hok.voted hp).lead rfl⟩
theorem RBd.onAppend (h : RBd r s) (hok : RsOk r) (hp : Proper r m) (hk : m.kind = 3) (ht : m.term ≤ r.js.term) (hm : MBd m s) : RBd (r.onAppend m).1 s ∧ ∀ x ∈ (r.onAppend m).2, MBd x s := by
  unfold Rs.onAppend
  split
  · exact ⟨h, h.answer _ _ _⟩
  · split
    · exact ⟨h, fun x hx => by cases hx⟩
    · split
      · exact ⟨⟨h.term, h.len⟩, h.answer _ _ _⟩
      · rename_i h1 h2 h3
        have ht2 : m.term = r.js.term := by omega
        obtain ⟨k1, k2⟩ := take_log hok hp hk ht2 (by simpa using h3)
        have hml := matchK_le r.js.log m.es m.index.toNat
        have hi0 := hp.i0
        have hl := hm.len hk
        split
        · rename_i h4
          split
          · exact ⟨⟨h.term, h.len⟩, fun x hx => by cases hx⟩
          · rw [k2 h4]
            refine ⟨⟨h.term, ?_⟩, h.answer _ _ _⟩
            simp only [List.length_append, List.length_take, List.length_drop]
            omega
        · exact ⟨⟨h.term, h.len⟩, h.answer _ _ _⟩
theorem RBd.onStored (h : RBd r s) (hok : RsOk r) : RBd (r.onStored m).1 s ∧ ∀ x ∈ (r.onStored m).2, MBd x s := by
  have hs := hok.onStored (m := m)
  revert hs
  unfold Rs.onStored
  split
  · exact fun _ => ⟨h, fun x hx => by cases hx⟩
  · rename_i h0
    have hr : r.role = 3 := by
      apply Classical.byContradiction
      intro hh
      exact h0 (.inl hh)
    split
    · intro hs
      refine ⟨⟨h.term, h.len⟩, fun x hx => ?_⟩
      simp only [List.mem_singleton] at hx
      subst hx
      exact RBd.app (r := { r with next := setAt r.next m.from_.toNat (min (r.next m.from_.toNat - 1) m.index.toNat) }) ⟨h.term, h.len⟩ hs hr _
    · split
      · exact fun _ => ⟨⟨h.term, h.len⟩, fun x hx => by cases hx⟩
      · exact fun _ => ⟨h, fun x hx => by cases hx⟩
theorem RBd.handle (h : RBd r s) (hok : RsOk r) (hm : MBd m s) : RBd (r.handle m).1 s ∧ ∀ x ∈ (r.handle m).2, MBd x s := by
  unfold Rs.handle
  split
  · exact ⟨h, fun x hx => by cases hx⟩
  · rename_i hp
    have hp : Proper r m := Rs.proper_iff.1 (by simpa using hp)
    have h1 := h.meets hm.term
    have o1 := hok.meets m.term hp.t1
    have p1 := hp.of_meets m.term
    unfold Rs.takes
    split
    · exact h1.onVote hm.term
    · split
      · exact h1.onVoted o1 p1
      · split
        · rename_i hk
          exact h1.onAppend o1 p1 hk (meets_term r m.term).1 hm
        · exact h1.onStored o1
theorem RBd.campaign (h : RBd r s) : RBd r.campaign.1 (s + 1) ∧ ∀ x ∈ r.campaign.2, MBd x (s + 1) := by
  have ht := h.term
  have hl := h.len
  unfold Rs.campaign
  split
  · exact ⟨h.up (by omega), fun x hx => by cases hx⟩
  · split
    · exact ⟨⟨by simp only [Rs.lead]; omega, by simp only [Rs.lead]; omega⟩, fun x hx => by cases hx⟩
    · refine ⟨⟨by simp only; omega, by simp only; omega⟩, fun x hx => ?_⟩
      obtain ⟨dst, -, rfl⟩ := List.mem_map.1 hx
      exact MBd.plain (by simp only [Rs.vote]; omega) (by simp [Rs.vote])
theorem RBd.propose (h : RBd r s) (hok : RsOk r) (e : En) (he : e.ok) : RBd (r.propose e).1 (s + 1) ∧ ∀ x ∈ (r.propose e).2, MBd x (s + 1) := by
  have ht := h.term
  have hl := h.len
  have hb : RBd (r.proposed e) (s + 1) := by
    unfold Rs.proposed
    obtain ⟨t1, t2⟩ := addS_tv r.js r.js.term e
    refine ⟨?_, ?_⟩
    · show (addS r.js r.js.term e).term ≤ _
      rw [t1]; omega
    · show (addS r.js r.js.term e).log.length ≤ _
      by_cases h0 : addX r.js r.js.term e = 0
      · rw [addS_yes h0]; simp; omega
      · rw [addS_no h0]; omega
  unfold Rs.propose
  split
  · rename_i hx
    refine ⟨hb, ?_⟩
    by_cases hr : r.role = 3
    · exact hb.toAll (hok.proposed e he) hr
    · unfold Rs.propX at hx
      rw [if_pos hr] at hx
      cases hx
  · exact ⟨h.up (by omega), fun x hx => by cases hx⟩
theorem RBd.beat (h : RBd r s) (hok : RsOk r) : ∀ x ∈ r.beat, MBd x s := by
  unfold Rs.beat
  split
  · exact fun x hx => by cases hx
  · rename_i h0
    exact h.toAll hok (by apply Classical.byContradiction; intro hh; exact h0 hh)
end
section
variable {q : Qs} {s : Nat}
theorem QBd.put (h : QBd q s) {i : Nat} {x : Rs × List Ms} (h1 : RBd x.1 s) (h2 : ∀ m ∈ x.2, MBd m s) : QBd (q.put i x) s := by
  refine ⟨fun j hj => ?_, fun m hm => ?_⟩
  · show RBd (upd q.rs i x.1 j) s
    by_cases e : j = i
    · subst e; rw [upd_self]; exact h1
    · rw [upd_ne e]; exact h.each j hj
  · rcases sendAll_mem _ hm with hm | hm
    · exact h.msgs m hm
    · exact h2 m hm
theorem QBd.remove (h : QBd q s) (i : Nat) : QBd (q.remove i) s := ⟨h.each, fun m hm => h.msgs m (List.mem_of_mem_eraseIdx hm)⟩
theorem QBd.note (h : QBd q s) : QBd q.note s := ⟨h.each, h.msgs⟩
theorem QBd.give (h : QBd q s) (hok : QsOk q) {m : Ms} (hm : MsgTo q.n m) (hb : MBd m s) : QBd (q.give m) s := by
  obtain ⟨t, ht, he⟩ := hm.to_
  unfold Qs.give
  rw [he, Int.toNat_natCast]
  obtain ⟨h1, h2⟩ := (h.each t ht).handle (hok.each t ht).1 hb
  exact h.put h1 h2
theorem QBd.act (h : QBd q s) (hok : QsOk q) (kind who num : Int) (e : En) (he : e.ok) : QBd (q.act kind who num e) (s + 1) := by
  unfold Qs.act
  split
  · exact h.up (by omega)
  · rename_i h0
    have hp := actX_permits h0
    have hw : (kind = 1 ∨ kind = 2 ∨ kind = 3 ∨ kind = 7) → who.toNat < q.n := fun hk => by have := permits_who hp hk; omega
    have h' := h.up (t := s + 1) (by omega)
    apply QBd.note
    split
    · rename_i hk
      have hi := hw (.inl hk)
      obtain ⟨g1, g2⟩ := (h.each _ hi).campaign
      exact h'.put g1 g2
    · split
      · rename_i hk
        have hi := hw (.inr (.inl hk))
        obtain ⟨g1, g2⟩ := (h.each _ hi).propose (hok.each _ hi).1 e he
        exact h'.put g1 g2
      · split
        · rename_i hk
          have hi := hw (.inr (.inr (.inl hk)))
          exact h'.put (h'.each _ hi) ((h'.each _ hi).beat (hok.each _ hi).1)
        · split
          · rename_i hk
            obtain ⟨k1, k2⟩ := permits_num hp (.inl hk)
            exact (h'.remove _).give (hok.remove _) (hok.msgs _ (at_mem k1 k2).1) (h'.msgs _ (at_mem k1 k2).1)
          · split
            · rename_i hk
              obtain ⟨k1, k2⟩ := permits_num hp (.inr (.inl hk))
              exact h'.give hok (hok.msgs _ (at_mem k1 k2).1) (h'.msgs _ (at_mem k1 k2).1)
            · split
              · exact h'.remove _
              · have hi := hw (by rcases permits_kind hp with hh | hh <;> omega)
                exact h'.put ⟨(h'.each _ hi).term, (h'.each _ hi).len⟩ (fun m hm => by cases hm)
theorem QBd.flush {up : Int} {q' : Qs} {k k' : Nat} (hf : Flushes up q k q' k') : ∀ {s : Nat}, QBd q s → QsOk q → QBd q' s ∧ QsOk q' := by
  induction hf with
  | stop q k h0 => exact fun h hok => ⟨h, hok⟩
  | skip q k m l q' k' hk hm h0 hn ih => exact fun h hok => ih (h.remove 0) (hok.remove 0)
  | give q k m l q' k' hk hm h0 hn ih =>
    intro s h hok
    have hmem : m ∈ q.net := by rw [hm]; simp
    exact ih ((h.remove 0).give (hok.remove 0) (hok.msgs m hmem) (h.msgs m hmem)).note ((hok.remove 0).give (hok.msgs m hmem)).note
theorem QBd.new {n : Nat} : QBd (quoNew n) 0 := ⟨fun i _ => ⟨Int.le_refl _, Nat.le_refl _⟩, fun m hm => (by cases hm)⟩
end

/-- A leader whose term is at least that of a majority has all that was committed. -/
theorem Inv.lead_has {n : Nat} {rs : Nat → Rs} {g : Gh} (h : Inv n rs g) {c : Nat} (hc : c < n) (hr : (rs c).role = 3) (hU : Maj n fun q => (rs q).js.term ≤ (rs c).js.term) {l : List Lg} (hl : Cmt n g l) : l <+: (rs c).js.log := by
  obtain ⟨e1, e2, -⟩ := h.v5 c hc hr
  rcases hl with rfl | ⟨T, L, hcom, hpre⟩
  · exact List.nil_prefix
  · obtain ⟨q, hq, k1, k2⟩ := hcom.2.meet hU
    have h1 := hcom.1.1
    have hT := h.a2 q hq T (by omega)
    rw [e2]
    rcases Int.lt_or_eq_of_le (show T ≤ (rs c).js.term by omega) with hlt | heq
    · exact hpre.trans (h.i5 T _ L hlt (by rw [e1]; simp) hcom.1 (hcom.2.mono fun i _ hi => .inl hi))
    · rw [← heq]
      exact hpre.trans (take_pre _ _)
/-- Entries of a log that are in order. -/
theorem LogOk.chainB {l : List Lg} {a : Int} (h : LogOk l a) : ∀ (k i : Nat) (low : Int), l.length - i ≤ k → (∀ x, l[i]? = some x → low ≤ x.term) → chainB a low (l.drop i) = true := by
  intro k
  induction k with
  | zero =>
    intro i low hk _
    rw [List.drop_eq_nil_of_le (by omega)]
    rfl
  | succ k ih =>
    intro i low hk hlow
    by_cases hi : i < l.length
    · obtain ⟨x, hx⟩ : ∃ x, l[i]? = some x := ⟨_, List.getElem?_eq_getElem hi⟩
      have hd : l.drop i = x :: l.drop (i + 1) := by
        rw [List.drop_eq_getElem_cons hi]
        rw [List.getElem?_eq_getElem hi] at hx
        injection hx with hx
        rw [hx]
      have he := h.each x (List.mem_of_getElem? hx)
      have hn := ih (i + 1) x.term (by omega) fun y hy => h.asc i (i + 1) x y (by omega) hx hy
      rw [hd]
      simp only [Go.Proofs.Ytokblidfekbeeaa.chainB, Bool.and_eq_true, decide_eq_true_eq]
      exact ⟨he.2.2.1, hlow x hx, he.2.1, hn⟩
    · rw [List.drop_eq_nil_of_le (by omega)]
      rfl
/-- What a leader sends may be handled. -/
theorem RsOk.app_proper {r r' : Rs} (h : RsOk r) (hr : r.role = 3) (ht : 1 ≤ r.js.term) {dst : Nat} (hd : r'.id = dst) (hne : r.id ≠ dst) (hn : r'.n = r.n) : Proper r' (r.app dst) := by
  have hnx := h.nxt hr dst
  have hfew := h.log.few
  have hcom := h.com
  have hb := h.log.termAt_bd h.lo ((r.next dst : Int) - 1)
  have hidn := h.idn
  refine ⟨by simp only [Rs.app]; omega, by simp only [Rs.app]; omega, by simp only [Rs.app]; omega, by simp only [Rs.app]; omega, ht, h.hi, by simp only [Rs.app]; omega, by simp only [Rs.app]; omega, hb.1, hb.2, by simp only [Rs.app]; omega, by simp only [Rs.app]; omega, .inr (.inr (.inl rfl)), fun _ => ?_⟩
  have hlow : ∀ x, r.js.log[r.next dst]? = some x → max 1 (termAt r.js.log ((r.next dst : Int) - 1)) ≤ x.term := by
    intro x hx
    have h1 := h.log.each x (List.mem_of_getElem? hx)
    have hlt := (List.getElem?_eq_some_iff.1 hx).1
    rcases Nat.eq_zero_or_pos (r.next dst) with h0 | h0
    · rw [h0, termAt_neg (by omega)]; omega
    · have := h.log.mono (i := r.next dst - 1) (j := r.next dst) (by omega) hlt
      rw [termAt_at hx, show ((r.next dst - 1 : Nat) : Int) = (r.next dst : Int) - 1 from by omega] at this
      omega
  have hch := h.log.chainB _ _ _ (Nat.le_refl _) hlow
  have hlen : (r.app dst).index + ((r.app dst).es.length : Int) ≤ 4096 := by
    show ((r.next dst : Nat) : Int) + ((r.js.log.drop (r.next dst)).length : Int) ≤ 4096
    rw [List.length_drop]
    omega
  unfold properA
  rw [Bool.and_eq_true, Bool.and_eq_true]
  refine ⟨?_, by simpa using hlen, hch⟩
  simp only [Rs.app]
  rcases Nat.eq_zero_or_pos (r.next dst) with h0 | h0
  · rw [h0, termAt_neg (by omega)]; rfl
  · obtain ⟨x, hx⟩ : ∃ x, r.js.log[r.next dst - 1]? = some x := ⟨_, List.getElem?_eq_getElem (by omega)⟩
    have h1 := h.log.each x (List.mem_of_getElem? hx)
    have h2 : termAt r.js.log ((r.next dst : Int) - 1) = x.term := by rw [show (r.next dst : Int) - 1 = ((r.next dst - 1 : Nat) : Int) from by omega, termAt_at hx]
    rw [h2]
    have e1 : (x.term == 0) = false := by simp; omega
    have e2 : ((r.next dst : Int) == 0) = false := by simp; omega
    rw [e1, e2]
    rfl
end Go.Proofs.Ytokblidfekbeeaa
