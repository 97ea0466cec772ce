/-
  Several texts in one: JrnP.
-/
import Derived.Test.YtokblidfekbeeaaZ16
import Derived.Test.YtokblidfekbeeaaZ08
import Derived.Test.YtokblidfekbeeaaZ01
/- The plain law of journals: what a journal remembers, its records, how they are replayed. -/
namespace Go.Proofs.Ytokblidfekbeeaa

/-- An entry of a log with its term. -/
structure Lg where
  term : Int
  e : En
deriving DecidableEq
/-- What a journal remembers. -/
structure Js where
  term : Int
  vote : Int
  log : List Lg
abbrev jsNew : Js := ⟨0, -1, []⟩
/-- The term of an entry by its index, or 0. -/
def termAt (l : List Lg) (i : Int) : Int := if 0 ≤ i then ((l[i.toNat]?).map (·.term)).getD 0 else 0

def setTermX (s : Js) (term vote : Int) : Int :=
  if term < 0 ∨ 1073741824 < term ∨ vote < -1 ∨ 5 ≤ vote then 1 else if term < s.term ∨ (term = s.term ∧ s.vote ≠ -1 ∧ s.vote ≠ vote) then 20 else 0
def setTermS (s : Js) (term vote : Int) : Js := if setTermX s term vote = 0 then ⟨term, vote, s.log⟩ else s
def addX (s : Js) (term : Int) (e : En) : Int :=
  if term < 1 ∨ 1073741824 < term ∨ shapeB e = false then 1 else if s.term < term ∨ term < termAt s.log ((s.log.length : Int) - 1) then 20 else if 4096 ≤ s.log.length then 2 else 0
def addS (s : Js) (term : Int) (e : En) : Js := if addX s term e = 0 then ⟨s.term, s.vote, s.log ++ [⟨term, e⟩]⟩ else s
def cutX (s : Js) (n : Int) : Int := if n < 0 ∨ (s.log.length : Int) < n then 1 else 0
def cutS (s : Js) (n : Int) : Js := if cutX s n = 0 then ⟨s.term, s.vote, s.log.take n.toNat⟩ else s

/-- The number that bytes begin with, and the bytes behind it. -/
def tkJ (p : List UInt8) : Option (Int × List UInt8) := if (takN p).e = 0 then some ((takN p).n, p.drop (takN p).k) else none
def replayB (s : Js) (kind n : Int) (p : List UInt8) : Option Js :=
  if kind = 1 then (match tkJ p with
    | none => none
    | some (v, q) => if q = [] ∧ setTermX s n v = 0 then some (setTermS s n v) else none)
  else if kind = 2 then (if (readE p).x = 0 ∧ (readE p).k = p.length ∧ addX s n (readE p).e = 0 then some (addS s n (readE p).e) else none)
  else if kind = 3 then (if p = [] ∧ cutX s n = 0 then some (cutS s n) else none)
  else none
/-- A record is carried out. -/
def replayJ (s : Js) (r : List UInt8) : Option Js :=
  match tkJ r with
  | none => none
  | some (kind, p) => match tkJ p with
    | none => none
    | some (n, q) => replayB s kind n q
/-- All frames from place p on are carried out, as long as they are right. -/
def playG : Nat → List UInt8 → Nat → Js → Nat × Js
  | 0, _, p, s => (p, s)
  | f + 1, b, p, s => if p < b.length then (if (takeFr 8 (b.drop p)).e = 0 then (match replayJ s (takeFr 8 (b.drop p)).p with
      | some s' => playG f b (p + (takeFr 8 (b.drop p)).k) s'
      | none => (p, s)) else (p, s)) else (p, s)
def playJ (b : List UInt8) : Nat × Js := playG (b.length + 1) b 0 jsNew
def foldJ : Js → List (List UInt8) → Option Js
  | s, [] => some s
  | s, r :: rs => (replayJ s r).bind fun s' => foldJ s' rs

theorem tkJ_int (n : Int) (h1 : -9223372036854775808 ≤ n) (h2 : n ≤ 9223372036854775807) (p : List UInt8) : tkJ (encN (codeN n) ++ p) = some (n, p) := by
  unfold tkJ
  rw [takN_enc n h1 h2]
  simp only [if_true, List.drop_left' rfl]
theorem intsF_cons (n : Int) (l : List Int) : intsF (n :: l) = encN (codeN n) ++ intsF l := by simp [intsF]
theorem intsF_nil : intsF [] = [] := rfl

theorem readE_back (e : En) (h : e.ok) (hs : shapeB e = true) (more : List UInt8) : readE (enB e ++ more) = ⟨e, (enB e).length, 0⟩ := by
  have h1 := intsG_back e.l [] more [] h
  rw [En.l_len] at h1
  simp only [List.nil_append, List.length_nil, Nat.zero_add] at h1
  unfold readE enB
  rw [h1]
  unfold finE
  simp only [if_true, En.of_l, hs]

/-- The records. -/
def recT (term vote : Int) : List UInt8 := intsF [1, term, vote]
def recE (term : Int) (e : En) : List UInt8 := intsF [2, term] ++ enB e
def recC (n : Int) : List UInt8 := intsF [3, n]

theorem replay_term (s : Js) (t v : Int) (h : setTermX s t v = 0) : replayJ s (recT t v) = some (setTermS s t v) := by
  have hb : ¬ (t < 0 ∨ 1073741824 < t ∨ v < -1 ∨ 5 ≤ v) := by
    intro hc
    unfold setTermX at h
    rw [if_pos hc] at h
    exact absurd h (by decide)
  unfold replayJ recT
  rw [intsF_cons, intsF_cons, intsF_cons, intsF_nil, tkJ_int 1 (by decide) (by decide)]
  simp only
  rw [tkJ_int t (by omega) (by omega)]
  simp only [replayB, if_true]
  rw [tkJ_int v (by omega) (by omega)]
  simp only [true_and, h, if_true]
theorem replay_entry (s : Js) (t : Int) (e : En) (he : e.ok) (h : addX s t e = 0) : replayJ s (recE t e) = some (addS s t e) := by
  have hb : ¬ (t < 1 ∨ 1073741824 < t ∨ shapeB e = false) := by
    intro hc
    unfold addX at h
    rw [if_pos hc] at h
    exact absurd h (by decide)
  have hs : shapeB e = true := by
    cases hq : shapeB e
    · exact absurd (Or.inr (Or.inr hq)) hb
    · rfl
  unfold replayJ recE
  rw [intsF_cons, intsF_cons, intsF_nil, List.append_nil, List.append_assoc, tkJ_int 2 (by decide) (by decide)]
  simp only
  rw [tkJ_int t (by omega) (by omega)]
  simp only [replayB]
  rw [if_neg (by decide), if_pos trivial]
  have := readE_back e he hs []
  rw [List.append_nil] at this
  rw [this]
  simp only [true_and, h, if_true]
theorem replay_cut (s : Js) (n : Int) (hl : s.log.length ≤ 4096) (h : cutX s n = 0) : replayJ s (recC n) = some (cutS s n) := by
  have hb : ¬ (n < 0 ∨ (s.log.length : Int) < n) := by
    intro hc
    unfold cutX at h
    rw [if_pos hc] at h
    exact absurd h (by decide)
  unfold replayJ recC
  rw [intsF_cons, intsF_cons, intsF_nil, tkJ_int 3 (by decide) (by decide)]
  simp only
  rw [tkJ_int n (by omega) (by omega)]
  simp only [replayB]
  rw [if_neg (by decide), if_neg (by decide), if_pos trivial]
  simp only [true_and, h, if_true]

theorem foldJ_append (s : Js) (rs qs : List (List UInt8)) : foldJ s (rs ++ qs) = (foldJ s rs).bind fun s' => foldJ s' qs := by
  induction rs generalizing s with
  | nil => rfl
  | cons r rs ih =>
    simp only [List.cons_append, foldJ]
    cases replayJ s r with
    | none => rfl
    | some s' => simpa using ih s'

theorem play_frames : ∀ (rs : List (List UInt8)) (s s' : Js) (pre more : List UInt8) (f : Nat), (∀ r ∈ rs, r.length ≤ 65536) → foldJ s rs = some s' → (pre ++ (frames 8 rs ++ more)).length < f + pre.length → (more = [] ∨ (takeFr 8 more).e ≠ 0) →
    playG f (pre ++ (frames 8 rs ++ more)) pre.length s = (pre.length + (frames 8 rs).length, s') := by
  intro rs
  induction rs with
  | nil =>
    intro s s' pre more f _ hs hf hm
    simp only [foldJ, Option.some.injEq] at hs
    subst hs
    rcases f with _ | f
    · simp [playG, frames]
    · simp only [playG, frames, List.flatMap_nil, List.nil_append, List.length_nil, Nat.add_zero]
      rcases hm with rfl | hm
      · rw [if_neg (by simp)]
      · by_cases h0 : pre.length < (pre ++ more).length
        · rw [if_pos h0, List.drop_left' rfl, if_neg hm]
        · rw [if_neg h0]
  | cons r rs ih =>
    intro s s' pre more f hr hs hf hm
    have hr1 := hr r (by simp)
    have hl := putN_lenP 8 r hr1
    simp only [foldJ] at hs
    cases hq : replayJ s r with
    | none => rw [hq] at hs; cases hs
    | some s1 =>
      rw [hq] at hs
      simp only [Option.bind_some] at hs
      have e1 : pre ++ (frames 8 (r :: rs) ++ more) = (pre ++ putN 8 r) ++ (frames 8 rs ++ more) := by rw [frames_cons]; simp only [List.append_assoc]
      rcases f with _ | f
      · simp only [List.length_append] at hf; omega
      · have h0 : pre.length < (pre ++ (frames 8 (r :: rs) ++ more)).length := by rw [frames_cons]; simp only [List.length_append]; omega
        rw [playG, if_pos h0, List.drop_left' rfl, frames_cons, List.append_assoc, takeFr_put 8 r _ hr1]
        simp only [if_true, hq]
        have := ih s1 s' (pre ++ putN 8 r) more f (fun q hq => hr q (by simp [hq])) hs (by rw [e1] at hf; simp only [List.length_append] at hf ⊢; omega) hm
        rw [List.length_append] at this
        rw [show pre ++ (putN 8 r ++ (frames 8 rs ++ more)) = (pre ++ putN 8 r) ++ (frames 8 rs ++ more) from by simp only [List.append_assoc], this, List.length_append]
        congr 1
        omega

/-- The bytes are the frames of records that make what is remembered. -/
structure Good (xs : List UInt8) (s : Js) (rs : List (List UInt8)) : Prop where
  bytes : xs = frames 8 rs
  small : ∀ r ∈ rs, r.length ≤ 65536
  makes : foldJ jsNew rs = some s
theorem Good.new : Good [] jsNew [] := ⟨rfl, fun _ h => (by cases h), rfl⟩
theorem Good.snoc {xs : List UInt8} {s s' : Js} {rs : List (List UInt8)} (h : Good xs s rs) (r : List UInt8) (hr : r.length ≤ 65536) (hq : replayJ s r = some s') : Good (xs ++ putN 8 r) s' (rs ++ [r]) := by
  refine ⟨by rw [frames_append, h.bytes]; simp [frames], ?_, ?_⟩
  · intro q hq
    rcases List.mem_append.1 hq with h1 | h1
    · exact h.small q h1
    · simp at h1; subst h1; exact hr
  · rw [foldJ_append, h.makes]
    simp [foldJ, hq]
theorem Good.play {xs : List UInt8} {s : Js} {rs : List (List UInt8)} (h : Good xs s rs) : playJ xs = (xs.length, s) := by
  have := play_frames rs jsNew s [] [] (xs.length + 1) h.small h.makes (by simp [h.bytes]) (.inl rfl)
  simp only [List.nil_append, List.append_nil, List.length_nil, Nat.zero_add] at this
  rw [← h.bytes] at this
  exact this

/-- Frames that are cut: a beginning of the records, and less than a frame. -/
theorem frames_cut : ∀ (rs : List (List UInt8)) (m : Nat), (∀ r ∈ rs, r.length ≤ 65536) → ∃ i more, i ≤ rs.length ∧ (frames 8 rs).take m = frames 8 (rs.take i) ++ more ∧ (more = [] ∨ (takeFr 8 more).e ≠ 0) ∧ ∀ j, j ≤ rs.length → (frames 8 (rs.take j)).length ≤ m → j ≤ i := by
  intro rs
  induction rs with
  | nil => intro m _; exact ⟨0, [], Nat.le_refl _, by simp [frames], .inl rfl, fun j hj _ => hj⟩
  | cons r rs ih =>
    intro m hr
    have hr1 := hr r (by simp)
    have hl := putN_lenP 8 r hr1
    by_cases hm : m < (putN 8 r).length
    · refine ⟨0, (putN 8 r).take m, Nat.zero_le _, ?_, .inr ?_, ?_⟩
      · rw [frames_cons, List.take_append_of_le_length (by omega)]
        simp [frames]
      · rw [takeFr_cut 8 r hr1 m hm]
        decide
      · intro j hj hle
        rcases j with _ | j
        · exact Nat.le_refl _
        · rw [List.take_succ_cons, frames_cons, List.length_append] at hle
          omega
    · obtain ⟨i, more, h1, h2, h3, h4⟩ := ih (m - (putN 8 r).length) (fun q hq => hr q (by simp [hq]))
      refine ⟨i + 1, more, by simpa using h1, ?_, h3, ?_⟩
      · rw [frames_cons, List.take_append, List.take_of_length_le (by omega), h2, List.take_succ_cons, frames_cons, List.append_assoc]
      · intro j hj hle
        rcases j with _ | j
        · exact Nat.zero_le _
        · rw [List.take_succ_cons, frames_cons, List.length_append] at hle
          have := h4 j (by simpa using hj) (by omega)
          omega

/-- What a crash leaves: a beginning of the records, with all that lie in the bytes that are left. -/
theorem Good.crash {xs : List UInt8} {s : Js} {rs : List (List UInt8)} (h : Good xs s rs) (m : Nat) (hm : m ≤ xs.length) :
    ∃ i s', i ≤ rs.length ∧ foldJ jsNew (rs.take i) = some s' ∧ playJ (xs.take m) = ((frames 8 (rs.take i)).length, s') ∧ Good ((xs.take m).take (frames 8 (rs.take i)).length) s' (rs.take i) ∧ (frames 8 (rs.take i)).length ≤ m ∧
      ∀ j, j ≤ rs.length → (frames 8 (rs.take j)).length ≤ m → j ≤ i := by
  obtain ⟨i, more, h1, h2, h3, h4⟩ := frames_cut rs m h.small
  obtain ⟨s', hs'⟩ : ∃ s', foldJ jsNew (rs.take i) = some s' := by
    have := h.makes
    rw [← List.take_append_drop i rs, foldJ_append] at this
    cases hq : foldJ jsNew (rs.take i) with
    | none => rw [hq] at this; cases this
    | some s' => exact ⟨s', rfl⟩
  have hsm : ∀ r ∈ rs.take i, r.length ≤ 65536 := fun r hr => h.small r (List.mem_of_mem_take hr)
  rw [← h.bytes] at h2
  have hp := play_frames (rs.take i) jsNew s' [] more ((xs.take m).length + 1) hsm hs' (by rw [h2]; simp) h3
  simp only [List.nil_append, List.length_nil, Nat.zero_add] at hp
  rw [← h2] at hp
  have hle : (frames 8 (rs.take i)).length ≤ m := by
    have := congrArg List.length h2
    rw [List.length_append, List.length_take] at this
    omega
  refine ⟨i, s', h1, hs', hp, ⟨?_, hsm, hs'⟩, hle, h4⟩
  rw [h2, List.take_left' rfl]
end Go.Proofs.Ytokblidfekbeeaa
