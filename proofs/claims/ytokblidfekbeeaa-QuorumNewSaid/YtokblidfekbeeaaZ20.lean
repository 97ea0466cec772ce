/-
  Several texts in one: QuoC, QuoD, QuoE, QuoF, QuoG, JrnL, Rep, RepA, RepB.
-/
import Derived.Test.YtokblidfekbeeaaZ19
import Derived.Test.YtokblidfekbeeaaZ18
import Derived.Deep.RegionHeld3
import Derived.IntWalk
/- The plain law of a quorum: a campaign's messages, delivered within a set, come to an end; no message then is left, and no replica of the set has a greater term. -/
namespace Go.Proofs.Ytokblidfekbeeaa
set_option linter.unusedVariables false

abbrev bitU (up : Int) (i : Nat) : Prop := ¬ (up >>> i) % 2 = 0
/-- A message that replica k, whose log is L, has sent. -/
def FromK (k : Nat) (L : List Lg) (n : Nat) (m : Ms) (j : Nat) : Prop :=
  ∃ r' : Rs, RsOk r' ∧ r'.js.log = L ∧ r'.id = k ∧ r'.n = n ∧ 1 ≤ r'.js.term ∧ r'.js.term = m.term ∧ (m = r'.vote j ∨ (r'.role = 3 ∧ m = r'.app j))
/-- A message that replica j has answered k. -/
def ToK (k j : Nat) (m : Ms) : Prop := ∃ t i ok, 1 ≤ t ∧ t ≤ 1073741824 ∧ 0 ≤ i ∧ i ≤ 4096 ∧ (m = ⟨2, j, k, t, 0, 0, 0, ok, []⟩ ∨ m = ⟨4, j, k, t, i, 0, 0, ok, []⟩)
theorem Better.refl (l : List Lg) : Better l l := .inr ⟨rfl, Nat.le_refl _⟩
theorem sendAll_app (l : List Ms) : ∀ net : List Ms, net.length + l.length ≤ 256 → sendAll net l = net ++ l := by
  induction l with
  | nil => intro net _; simp [sendAll]
  | cons m l ih =>
    intro net h
    rw [List.length_cons] at h
    show sendAll (sendOne net m) l = _
    have h1 : sendOne net m = net ++ [m] := by unfold sendOne; rw [if_neg (by omega)]
    rw [h1, ih _ (by simp; omega)]
    simp
/-- The weight of a message, as long as replica k is r. -/
def wt (r : Rs) (m : Ms) : Nat := if m.kind = 1 then 2 else if m.kind = 3 then 2 * m.index.toNat + 4 else if m.kind = 4 ∧ m.ok = false ∧ r.role = 3 ∧ m.term = r.js.term then 2 * m.index.toNat + 5 else 1
def wts (r : Rs) : List Ms → Nat
  | [] => 0
  | m :: l => wt r m + wts r l
def cand (r : Rs) : Nat := if r.role = 2 then r.n * (2 * r.js.log.length + 4) else 0
theorem wt_pos (r : Rs) (m : Ms) : 1 ≤ wt r m := by unfold wt; split <;> (try split) <;> (try split) <;> omega
theorem wts_app (r : Rs) (a b : List Ms) : wts r (a ++ b) = wts r a + wts r b := by
  induction a with
  | nil => simp [wts]
  | cons m a ih => simp only [List.cons_append, wts, ih]; omega
theorem wts_len (r : Rs) (a : List Ms) : a.length ≤ wts r a := by
  induction a with
  | nil => exact Nat.le_refl _
  | cons m a ih => have := wt_pos r m; simp only [wts, List.length_cons]; omega
theorem wts_le {r r' : Rs} {l : List Ms} (h : ∀ m ∈ l, wt r' m ≤ wt r m) : wts r' l ≤ wts r l := by
  induction l with
  | nil => exact Nat.le_refl _
  | cons m l ih =>
    have h1 := h m (by simp)
    have h2 := ih fun x hx => h x (by simp [hx])
    simp only [wts]; omega
theorem wts_const {r r' : Rs} {c : Nat} (h : ∀ dst, r'.next dst = c) : ∀ l : List Nat, wts r (l.map r'.app) = l.length * (2 * c + 4) := by
  intro l
  induction l with
  | nil => simp [wts]
  | cons d l ih =>
    have h1 : wt r (r'.app d) = 2 * c + 4 := by
      unfold wt
      rw [if_neg (by simp [Rs.app]), if_pos (by simp [Rs.app])]
      simp only [Rs.app, h, Int.toNat_natCast]
    simp only [List.map_cons, wts, ih, h1, List.length_cons, Nat.succ_mul]
    omega
theorem others_le (id k : Nat) : (others id k).length ≤ k := by
  unfold others
  have := List.length_filter_le (fun x => x != id) (List.range k)
  simpa using this
theorem RsOk.vote_proper {r r' : Rs} (h : RsOk r) (ht : 1 ≤ r.js.term) {dst : Nat} (hd : r'.id = dst) (hne : r.id ≠ dst) (hn : r'.n = r.n) : Proper r' (r.vote dst) := by
  have hfew := h.log.few
  have hb := h.log.termAt_bd h.lo ((r.js.log.length : Int) - 1)
  have hidn := h.idn
  exact ⟨by simp only [Rs.vote]; omega, by simp only [Rs.vote]; omega, by simp only [Rs.vote]; omega, by simp only [Rs.vote]; omega, ht, h.hi, by simp only [Rs.vote]; omega, by simp only [Rs.vote]; omega, hb.1, hb.2, Int.le_refl _, by simp only [Rs.vote]; omega, .inl rfl, fun hh => by simp [Rs.vote] at hh⟩
theorem FromK.proper {k n j : Nat} {L : List Lg} {m : Ms} {r : Rs} (h : FromK k L n m j) (hid : r.id = j) (hn : r.n = n) (hjk : j ≠ k) : Proper r m := by
  obtain ⟨r', h1, h2, h3, h4, h5, h6, h7 | ⟨h8, h7⟩⟩ := h
  · rw [h7]; exact h1.vote_proper h5 hid (by omega) (by omega)
  · rw [h7]; exact h1.app_proper h8 h5 hid (by omega) (by omega)
theorem ToK.proper {k n j : Nat} {m : Ms} {r : Rs} (h : ToK k j m) (hid : r.id = k) (hn : r.n = n) (hj : j < n) (hjk : j ≠ k) : Proper r m := by
  obtain ⟨t, i, ok, h1, h2, h3, h4, rfl | rfl⟩ := h
  · exact ⟨by simp only; omega, by simp only; omega, by simp only; omega, by simp only; omega, h1, h2, Int.le_refl _, by simp only; omega, Int.le_refl _, by simp only; omega, Int.le_refl _, by simp only; omega, .inr (.inl rfl), fun hh => by simp at hh⟩
  · exact ⟨by simp only; omega, by simp only; omega, by simp only; omega, by simp only; omega, h1, h2, h3, h4, Int.le_refl _, by simp only; omega, Int.le_refl _, by simp only; omega, .inr (.inr (.inr rfl)), fun hh => by simp at hh⟩
theorem meets_max (r : Rs) (t : Int) : (r.meets t).js.term = max r.js.term t ∧ (r.meets t).js.log = r.js.log := by
  unfold Rs.meets
  split
  · exact ⟨by simp only; omega, rfl⟩
  · exact ⟨by omega, rfl⟩
theorem handle_takes {r : Rs} {m : Ms} (h : Proper r m) : r.handle m = (r.meets m.term).takes m := by
  unfold Rs.handle
  rw [if_neg (by rw [Rs.proper_iff.2 h]; simp)]

/-- What a replica answers k. -/
structure HJ (r : Rs) (m : Ms) (k j : Nat) (L : List Lg) (x : Rs × List Ms) : Prop where
  log : x.1.js.log = r.js.log ∨ x.1.js.log = L
  term : x.1.js.term = max r.js.term m.term
  rep : (x.2 = [] ∧ m.kind = 3 ∧ x.1.js.term = m.term) ∨ ∃ i ok, 0 ≤ i ∧ i ≤ 4096 ∧ ((m.kind = 1 ∧ x.2 = [⟨2, j, k, x.1.js.term, 0, 0, 0, ok, []⟩]) ∨ (m.kind = 3 ∧ x.2 = [⟨4, j, k, x.1.js.term, i, 0, 0, ok, []⟩] ∧ (ok = false → i ≤ m.index - 1 ∨ m.term < x.1.js.term)))
theorem handle_J {r : Rs} {m : Ms} {k j n : Nat} {L : List Lg} (hr : RsOk r) (hid : r.id = j) (hn : r.n = n) (hjk : j ≠ k) (hm : FromK k L n m j)
    (hag : m.kind = 3 → r.fits m = true → r.js.log.take (m.index.toNat + matchK r.js.log m.index.toNat m.es) = L.take (m.index.toNat + matchK r.js.log m.index.toNat m.es)) : HJ r m k j L (r.handle m) := by
  have hp := hm.proper hid hn hjk
  rw [handle_takes hp]
  obtain ⟨t1, t2⟩ := meets_max r m.term
  obtain ⟨i1, i2, -, -⟩ := meets_eq r m.term
  have o1 := hr.meets m.term hp.t1
  have p1 := hp.of_meets m.term
  have hfit : (r.meets m.term).fits m = r.fits m := by unfold Rs.fits; rw [t2]
  obtain ⟨r', h1, h2, h3, h4, h5, h6, h7⟩ := hm
  generalize r.meets m.term = r1 at *
  rcases h7 with h7 | ⟨h8, h7⟩
  · have hk : m.kind = 1 := by rw [h7]; rfl
    have hf : m.from_ = k := by rw [h7]; simp only [Rs.vote]; rw [h3]
    unfold Rs.takes
    rw [if_pos hk]
    unfold Rs.onVote
    refine ⟨.inl ?_, ?_, .inr ⟨0, r1.grants m, by omega, by omega, .inl ⟨hk, ?_⟩⟩⟩
    · simp only
      split <;> exact t2
    · simp only
      split
      · rename_i hg
        unfold Rs.grants at hg
        simp only [decide_eq_true_eq] at hg
        simp only
        omega
      · exact t1
    · simp only
      have hh : (if r1.grants m = true then ({ r1 with js := ⟨m.term, m.from_, r1.js.log⟩ } : Rs) else r1).js.term = r1.js.term := by
        split
        · rename_i hg
          unfold Rs.grants at hg
          simp only [decide_eq_true_eq] at hg
          simp only
          omega
        · rfl
      rw [hh, i1, hid, hf]
  · have hk : m.kind = 3 := by rw [h7]; rfl
    have hf : m.from_ = k := by rw [h7]; simp only [Rs.app]; rw [h3]
    have hes : m.es = L.drop m.index.toNat := by rw [h7]; simp only [Rs.app, Int.toNat_natCast]; rw [h2]
    have hnx := h1.nxt h8 j
    have hfew := h1.log.few
    have hix : m.index.toNat ≤ L.length := by rw [h7]; simp only [Rs.app, Int.toNat_natCast]; rw [← h2]; exact hnx
    have hlen : m.es.length = L.length - m.index.toNat := by rw [hes, List.length_drop]
    rw [h2] at hfew
    have hi0 := hp.i0
    unfold Rs.takes
    rw [if_neg (by omega), if_neg (by omega), if_pos hk]
    unfold Rs.onAppend
    split
    · rename_i hlt
      refine ⟨.inl t2, t1, .inr ⟨0, false, by omega, by omega, .inr ⟨hk, ?_, fun _ => .inr hlt⟩⟩⟩
      simp only [Rs.answer]
      rw [i1, hid, hf]
    · split
      · exact ⟨.inl t2, t1, .inl ⟨rfl, hk, by simp only; omega⟩⟩
      · split
        · rename_i hfl
          have hpos : 0 < m.index := by
            apply Classical.byContradiction
            intro hh
            have h0 : m.index = 0 := by omega
            unfold Rs.fits at hfl
            simp only [decide_eq_false_iff_not] at hfl
            exact hfl ⟨by omega, .inl h0⟩
          refine ⟨.inl t2, t1, .inr ⟨min (r1.js.log.length : Int) (m.index - 1), false, by omega, by have := hp.i1; omega, .inr ⟨hk, ?_, fun _ => .inl (by omega)⟩⟩⟩
          simp only [Rs.answer]
          rw [i1, hid, hf]
        · rename_i g1 g2 g3
          have ht2 : m.term = r1.js.term := by omega
          have g3' : r1.fits m = true := by simpa using g3
          obtain ⟨k1, k2⟩ := take_log o1 p1 hk ht2 g3'
          have hag2 := hag hk (by rw [← hfit]; exact g3')
          rw [← t2] at hag2
          split
          · rename_i g4
            split
            · exact ⟨.inl t2, t1, .inl ⟨rfl, hk, by simp only; omega⟩⟩
            · rw [k2 g4]
              refine ⟨.inr ?_, t1, .inr ⟨m.index + m.es.length, true, by omega, by omega, .inr ⟨hk, ?_, fun hh => by cases hh⟩⟩⟩
              · simp only
                rw [hag2, hes, List.drop_drop]
                exact List.take_append_drop _ _
              · simp only [Rs.answer]
                rw [i1, hid, hf]
          · refine ⟨.inl t2, t1, .inr ⟨m.index + m.es.length, true, by omega, by omega, .inr ⟨hk, ?_, fun hh => by cases hh⟩⟩⟩
            simp only [Rs.answer]
            rw [i1, hid, hf]
/-- What k makes of an answer. -/
structure HK (r : Rs) (m : Ms) (k n : Nat) (x : Rs × List Ms) : Prop where
  log : x.1.js.log = r.js.log
  term : x.1.js.term = max r.js.term m.term
  role2 : x.1.role = 2 → r.role = 2 ∧ x.1.js.term = r.js.term
  role3 : x.1.role = 3 → x.1.js.term = r.js.term ∧ (r.role = 3 ∨ r.role = 2)
  rep : ∀ y ∈ x.2, x.1.role = 3 ∧ ∃ d, d < n ∧ d ≠ k ∧ y = x.1.app d
  wt : wts x.1 x.2 + cand x.1 + 1 ≤ Go.Proofs.Ytokblidfekbeeaa.wt r m + cand r
  len : x.2.length + (if x.1.role = 2 then n else 0) ≤ 1 + (if r.role = 2 then n else 0)
theorem HK.none {r r1 : Rs} {m : Ms} {k n : Nat} (h1 : r1.js.log = r.js.log) (h2 : r1.js.term = max r.js.term m.term) (h3 : r1.role = r.role ∧ r1.js.term = r.js.term ∨ r1.role = 1) (h4 : r1.n = r.n) : HK r m k n (r1, []) := by
  have hw := wt_pos r m
  have hc : cand r1 ≤ cand r := by
    unfold cand
    rcases h3 with h3 | h3
    · rw [h3.1, h1, h4]; exact Nat.le_refl _
    · rw [if_neg (by omega)]; exact Nat.zero_le _
  refine ⟨h1, h2, fun hh => ?_, fun hh => ?_, (fun y hy => by cases hy), by simp only [wts]; omega, ?_⟩
  · rcases h3 with h3 | h3
    · exact ⟨by simp only at hh; omega, h3.2⟩
    · simp only at hh; omega
  · rcases h3 with h3 | h3
    · exact ⟨h3.2, .inl (by simp only at hh; omega)⟩
    · simp only at hh; omega
  · simp only [List.length_nil]
    rcases h3 with h3 | h3
    · rw [h3.1]; omega
    · rw [if_neg (by omega)]; omega
theorem handle_K {r : Rs} {m : Ms} {k j n : Nat} (hr : RsOk r) (hid : r.id = k) (hn : r.n = n) (hj : j < n) (hjk : j ≠ k) (hm : ToK k j m) : HK r m k n (r.handle m) := by
  have hp := hm.proper hid hn hj hjk
  rw [handle_takes hp]
  have p1 := hp.of_meets m.term
  have o1 := hr.meets m.term hp.t1
  have hmx := meets_max r m.term
  have hme := meets_eq r m.term
  have hcase : (r.meets m.term = r ∧ m.term ≤ r.js.term) ∨ (r.meets m.term).role = 1 := by
    unfold Rs.meets
    split
    · exact .inr rfl
    · exact .inl ⟨rfl, by omega⟩
  have hk : m.kind = 2 ∨ m.kind = 4 := by obtain ⟨t, i, ok, -, -, -, -, rfl | rfl⟩ := hm <;> simp
  rcases hcase with ⟨hc, hle⟩ | hc
  · rw [hc] at p1 o1 ⊢
    clear hc hmx hme
    have htm : r.js.term = max r.js.term m.term := by omega
    rcases hk with hk | hk
    · unfold Rs.takes
      rw [if_neg (by omega), if_pos hk]
      unfold Rs.onVoted
      split
      · exact HK.none rfl htm (.inl ⟨rfl, rfl⟩) rfl
      · rename_i g1
        have hr2 : r.role = 2 := by
          apply Classical.byContradiction
          intro hh; exact g1 (.inl hh)
        split
        · exact HK.none rfl htm (.inl ⟨rfl, rfl⟩) rfl
        · have hso : (others r.id r.n).length * (2 * r.js.log.length + 4) ≤ r.n * (2 * r.js.log.length + 4) := Nat.mul_le_mul_right _ (others_le _ _)
          have hw := wt_pos r m
          refine ⟨rfl, htm, fun hh => by simp [Rs.lead] at hh, fun _ => ⟨rfl, .inr hr2⟩, fun y hy => ⟨rfl, ?_⟩, ?_, ?_⟩
          · unfold Rs.toAll at hy
            obtain ⟨d, hd, rfl⟩ := List.mem_map.1 hy
            obtain ⟨d1, d2⟩ := others_mem.1 hd
            exact ⟨d, by simp only [Rs.lead] at d1; omega, by simp only [Rs.lead] at d2; omega, rfl⟩
          · unfold Rs.toAll
            rw [wts_const (c := r.js.log.length) (fun _ => rfl)]
            have e1 : cand ({ r with votes := r.votes ||| 2 ^ m.from_.toNat } : Rs).lead = 0 := by unfold cand; rw [if_neg (by simp [Rs.lead])]
            have e2 : cand r = r.n * (2 * r.js.log.length + 4) := by unfold cand; rw [if_pos hr2]
            rw [e1, e2]
            simp only [Rs.lead]
            omega
          · simp only [Rs.toAll, List.length_map]
            have := others_le r.id r.n
            rw [if_neg (by simp [Rs.lead]), if_pos hr2]
            simp only [Rs.lead]
            omega
    · unfold Rs.takes
      rw [if_neg (by omega), if_neg (by omega), if_neg (by omega)]
      unfold Rs.onStored
      split
      · exact HK.none rfl htm (.inl ⟨rfl, rfl⟩) rfl
      · rename_i g1
        have hr3 : r.role = 3 := by
          apply Classical.byContradiction
          intro hh; exact g1 (.inl hh)
        have ht3 : m.term = r.js.term := by
          apply Classical.byContradiction
          intro hh; exact g1 (.inr hh)
        have hf : m.from_ = j := by obtain ⟨t, i, ok, -, -, -, -, rfl | rfl⟩ := hm <;> rfl
        split
        · rename_i g2
          refine ⟨rfl, htm, fun hh => by simp only at hh; omega, fun _ => ⟨rfl, .inl hr3⟩, fun y hy => ⟨hr3, j, hj, hjk, ?_⟩, ?_, ?_⟩
          · simp only [List.mem_singleton] at hy
            rw [hy, hf, Int.toNat_natCast]
          · have e1 : Go.Proofs.Ytokblidfekbeeaa.wt r m = 2 * m.index.toNat + 5 := by
              unfold Go.Proofs.Ytokblidfekbeeaa.wt
              rw [if_neg (by omega), if_neg (by omega), if_pos ⟨hk, g2, hr3, ht3⟩]
            have e2 : cand r = 0 := by unfold cand; rw [if_neg (by omega)]
            rw [e1, e2]
            simp only [wts]
            have e3 : ∀ (r1 : Rs), r1.role = 3 → r1.next j ≤ m.index.toNat → Go.Proofs.Ytokblidfekbeeaa.wt r1 (r1.app j) + 0 + cand r1 + 1 ≤ 2 * m.index.toNat + 5 + 0 := by
              intro r1 q1 q2
              have e4 : cand r1 = 0 := by unfold cand; rw [if_neg (by omega)]
              have e5 : Go.Proofs.Ytokblidfekbeeaa.wt r1 (r1.app j) = 2 * r1.next j + 4 := by
                unfold Go.Proofs.Ytokblidfekbeeaa.wt
                rw [if_neg (by simp [Rs.app]), if_pos (by simp [Rs.app])]
                simp only [Rs.app, Int.toNat_natCast]
              omega
            rw [hf, Int.toNat_natCast]
            exact e3 _ hr3 (by simp only [setAt, if_true]; omega)
          · simp only [List.length_singleton]
            have e6 : ¬ r.role = 2 := by omega
            simp [e6]
        · split
          · exact HK.none rfl htm (.inl ⟨rfl, rfl⟩) rfl
          · exact HK.none rfl htm (.inl ⟨rfl, rfl⟩) rfl
  · have hno : (r.meets m.term).takes m = (r.meets m.term, []) := by
      unfold Rs.takes
      rw [if_neg (by omega)]
      rcases hk with hk | hk
      · rw [if_pos hk]
        unfold Rs.onVoted
        rw [if_pos (.inl (by omega))]
      · rw [if_neg (by omega), if_neg (by omega)]
        unfold Rs.onStored
        rw [if_pos (.inl (by omega))]
    rw [hno]
    exact HK.none hmx.2 hmx.1 (.inr hc) hme.2.1
end Go.Proofs.Ytokblidfekbeeaa
/- The plain law of a quorum: what a campaign of the best replica of a set, flushed within the set, leaves. -/
namespace Go.Proofs.Ytokblidfekbeeaa
set_option linter.unusedVariables false

theorem FromK.ends {k n j : Nat} {L : List Lg} {m : Ms} (h : FromK k L n m j) : m.from_ = k ∧ m.to_ = j ∧ (m.kind = 1 ∨ m.kind = 3) ∧ 1 ≤ m.term ∧ m.term ≤ 1073741824 := by
  obtain ⟨r', h1, h2, h3, h4, h5, h6, h7 | ⟨h8, h7⟩⟩ := h
  · refine ⟨?_, ?_, ?_, by omega, by have := h1.hi; omega⟩ <;> rw [h7] <;> simp [Rs.vote, h3]
  · refine ⟨?_, ?_, ?_, by omega, by have := h1.hi; omega⟩ <;> rw [h7] <;> simp [Rs.app, h3]
theorem ToK.ends {k j : Nat} {m : Ms} (h : ToK k j m) : m.from_ = j ∧ m.to_ = k ∧ (m.kind = 2 ∨ m.kind = 4) ∧ m.es = [] := by
  obtain ⟨t, i, ok, h1, h2, h3, h4, rfl | rfl⟩ := h <;> simp
/-- The replica j agrees with L up to where its own entries match. -/
theorem agree_L {n : Nat} {rs : Nat → Rs} {g : Gh} (h : Inv n rs g) {j k : Nat} (hj : j < n) {m : Ms} {L : List Lg} (hL : Pref g.gl L) (hmo : MsgOk n g m) (hm : FromK k L n m j) (h3 : m.kind = 3) (hf : (rs j).fits m = true) :
    (rs j).js.log.take (m.index.toNat + matchK (rs j).js.log m.index.toNat m.es) = L.take (m.index.toNat + matchK (rs j).js.log m.index.toNat m.es) ∧ L <+: g.gl m.term := by
  obtain ⟨r', h1, h2, -, -, -, -, h7 | ⟨h8, h7⟩⟩ := hm
  · rw [h7] at h3; simp [Rs.vote] at h3
  have hnx := h1.nxt h8 j
  obtain ⟨c, i, kk, -, hi, -, -, hle, hes, hp, -⟩ := hmo.app h3
  have hpre := match_pre h hj hi hle hes hp hf
  have hi2 : r'.next j = i := by rw [h7] at hi; simp only [Rs.app] at hi; omega
  have hm2 : m.es = L.drop i := by rw [h7]; simp only [Rs.app]; rw [h2, hi2]
  have hp2 : m.prev = termAt L ((i : Int) - 1) := by rw [h7]; simp only [Rs.app]; rw [h2, hi2]
  rw [h2, hi2] at hnx
  have hml := matchK_le (rs j).js.log m.es i
  have hel : m.es.length = L.length - i := by rw [hm2, List.length_drop]
  have ht : L.take i = (g.gl m.term).take i := by
    rcases Nat.eq_zero_or_pos i with h0 | h0
    · rw [h0]; rfl
    · obtain ⟨x, hx⟩ : ∃ x, L[i - 1]? = some x := ⟨_, List.getElem?_eq_getElem (by omega)⟩
      obtain ⟨y, hy⟩ : ∃ y, (g.gl m.term)[i - 1]? = some y := ⟨_, List.getElem?_eq_getElem (by omega)⟩
      have e : x.term = y.term := by
        rw [hp, show (i : Int) - 1 = ((i - 1 : Nat) : Int) from by omega, termAt_at hx, termAt_at hy] at hp2
        exact hp2.symm
      have := hL.agree (h.l2 m.term).1 hx hy e
      rw [show i - 1 + 1 = i from by omega] at this
      exact this
  have hpL : L <+: g.gl m.term := by
    have e : L = (g.gl m.term).take (i + m.es.length) := by
      rw [List.take_add, ← ht, ← hes, hm2]
      exact (List.take_append_drop _ _).symm
    rw [e]
    exact take_pre _ _
  refine ⟨?_, hpL⟩
  rw [hi, Int.toNat_natCast, hpre]
  exact pre_take hpL (by omega)

def weight (k : Nat) (q : Qs) : Nat := wts (q.rs k) q.net + cand (q.rs k)
/-- What holds while the messages of a campaign of k are delivered within a set. -/
structure ZA (up : Int) (k : Nat) (L : List Lg) (q : Qs) : Prop where
  kn : k < q.n
  ku : bitU up k
  log : (q.rs k).js.log = L
  bet : ∀ j, j < q.n → bitU up j → Better L (q.rs j).js.log
  msg : ∀ m ∈ q.net, ∃ j, j < q.n ∧ j ≠ k ∧ ((FromK k L q.n m j ∧ m.term ≤ (q.rs k).js.term ∧ (m.kind = 3 → (q.rs k).role ≠ 2 ∧ ((q.rs k).role = 3 → m.term = (q.rs k).js.term))) ∨ (bitU up j ∧ ToK k j m ∧ (m.kind = 4 → (q.rs k).role ≠ 2)))
  few : q.net.length + (if (q.rs k).role = 2 then q.n else 0) ≤ 10
  tm : ∀ j, j < q.n → j ≠ k → bitU up j → (q.rs j).js.term ≤ (q.rs k).js.term ∨ (∃ m ∈ q.net, m.from_ = j ∧ (q.rs j).js.term ≤ m.term) ∨ ∃ m ∈ q.net, m.kind = 1 ∧ m.to_ = j
theorem inUp_to {up : Int} {m : Ms} {j : Nat} (h : inUp up m) (e : m.to_ = j) : bitU up j := by
  unfold inUp at h
  rw [e, Int.toNat_natCast] at h
  exact fun hh => h (.inr hh)
/-- The parts of a quorum behind a message. -/
theorem give_parts {q : Qs} {m : Ms} {l : List Ms} {t : Nat} (hm : q.net = m :: l) (ht : m.to_ = t) :
    (((q.remove 0).give m).note).rs = upd q.rs t ((q.rs t).handle m).1 ∧ (((q.remove 0).give m).note).net = sendAll l ((q.rs t).handle m).2 ∧ (((q.remove 0).give m).note).n = q.n := by
  refine ⟨?_, ?_, rfl⟩
  · show upd q.rs m.to_.toNat ((q.rs m.to_.toNat).handle m).1 = _
    rw [ht, Int.toNat_natCast]
  · show sendAll (q.net.eraseIdx 0) ((q.rs m.to_.toNat).handle m).2 = _
    rw [ht, Int.toNat_natCast, hm]
    rfl
section
variable {up : Int} {k : Nat} {L : List Lg} {q : Qs} {g : Gh} {m : Ms} {l : List Ms}
theorem ZA.hj (hI : QInv q g) (h : ZA up k L q) (hm : q.net = m :: l) {j : Nat} (hj : j < q.n) (hjk : j ≠ k) (hF : FromK k L q.n m j) : HJ (q.rs j) m k j L ((q.rs j).handle m) := by
  obtain ⟨o1, o2, o3⟩ := hI.ok.each j hj
  have hL : Pref g.gl L := by have := hI.inv.l1 k h.kn; rw [h.log] at this; exact this
  exact handle_J o1 o2 o3 hjk hF fun a b => (agree_L hI.inv hj hL (hI.msgs m (by rw [hm]; simp)) hF a b).1
theorem ZA.give_J (hI : QInv q g) (h : ZA up k L q) (hm : q.net = m :: l) (hin : inUp up m) {j : Nat} (hj : j < q.n) (hjk : j ≠ k)
    (hF : FromK k L q.n m j) (ht : m.term ≤ (q.rs k).js.term) (h3 : m.kind = 3 → (q.rs k).role ≠ 2 ∧ ((q.rs k).role = 3 → m.term = (q.rs k).js.term)) :
    ZA up k L ((q.remove 0).give m).note ∧ weight k ((q.remove 0).give m).note + 1 ≤ weight k q := by
  have hfew := h.few
  rw [hm, List.length_cons] at hfew
  have hn5 := hI.ok.five
  obtain ⟨e1, e2, e3, e4, e5⟩ := hF.ends
  have hU := inUp_to hin e2
  obtain ⟨hrs, hnet, hnn⟩ := give_parts hm e2
  obtain ⟨o1, o2, o3⟩ := hI.ok.each j hj
  have HJx := h.hj hI hm hj hjk hF
  have ho1 := o1.hi
  generalize ((q.remove 0).give m).note = q' at *
  generalize (q.rs j).handle m = x at *
  have hlen : x.2.length ≤ 1 := by rcases HJx.rep with ⟨e, -⟩ | ⟨i, ok, -, -, ⟨-, e⟩ | ⟨-, e, -⟩⟩ <;> rw [e] <;> simp
  have hfew2 := hfew
  generalize (if (q.rs k).role = 2 then q.n else 0) = cn at hfew2
  rw [sendAll_app _ _ (by omega)] at hnet
  have hk' : q'.rs k = q.rs k := by rw [hrs, upd_ne (Ne.symm hjk)]
  have hj' : q'.rs j = x.1 := by rw [hrs, upd_self]
  have hxt := HJx.term
  refine ⟨⟨by rw [hnn]; exact h.kn, h.ku, by rw [hk']; exact h.log, fun i hi hUi => ?_, fun m' hm' => ?_, ?_, fun i hi hik hUi => ?_⟩, ?_⟩
  · by_cases e : i = j
    · subst e
      rw [hj']
      rcases HJx.log with e | e
      · rw [e]; exact h.bet i hj hU
      · rw [e]; exact Better.refl _
    · rw [hrs, upd_ne e]; exact h.bet i (by omega) hUi
  · rw [hnet] at hm'
    rw [hk', hnn]
    rcases List.mem_append.1 hm' with hm' | hm'
    · exact h.msg m' (by rw [hm]; simp [hm'])
    · refine ⟨j, hj, hjk, .inr ⟨hU, ?_⟩⟩
      rcases HJx.rep with ⟨e, -⟩ | ⟨i, ok, i0, i1, ⟨kd, e⟩ | ⟨kd, e, -⟩⟩
      · rw [e] at hm'; cases hm'
      · rw [e, List.mem_singleton] at hm'
        subst hm'
        exact ⟨⟨_, i, ok, by omega, by omega, i0, i1, .inl rfl⟩, fun hh => by simp at hh⟩
      · rw [e, List.mem_singleton] at hm'
        subst hm'
        exact ⟨⟨_, i, ok, by omega, by omega, i0, i1, .inr rfl⟩, fun _ => (h3 kd).1⟩
  · rw [hnet, List.length_append, hk', hnn]
    generalize (if (q.rs k).role = 2 then q.n else 0) = cn at hfew ⊢
    omega
  · by_cases e : i = j
    · subst e
      rw [hj', hk', hnet]
      rcases HJx.rep with ⟨e, kd, et⟩ | ⟨i', ok, -, -, ⟨kd, e⟩ | ⟨kd, e, -⟩⟩
      · exact .inl (by rw [et]; exact ht)
      · exact .inr (.inl ⟨_, by rw [e]; exact List.mem_append_right _ (List.mem_singleton.2 rfl), rfl, Int.le_refl _⟩)
      · exact .inr (.inl ⟨_, by rw [e]; exact List.mem_append_right _ (List.mem_singleton.2 rfl), rfl, Int.le_refl _⟩)
    · have hi' : q'.rs i = q.rs i := by rw [hrs, upd_ne e]
      rw [hi', hk', hnet]
      rcases h.tm i (by omega) hik hUi with a | ⟨m', a1, a2, a3⟩ | ⟨m', a1, a2, a3⟩
      · exact .inl a
      · rw [hm] at a1
        rcases List.mem_cons.1 a1 with rfl | a1
        · exfalso; omega
        · exact .inr (.inl ⟨m', by simp [a1], a2, a3⟩)
      · rw [hm] at a1
        rcases List.mem_cons.1 a1 with rfl | a1
        · exfalso; omega
        · exact .inr (.inr ⟨m', by simp [a1], a2, a3⟩)
  · unfold weight
    rw [hnet, hk', hm, wts_app]
    simp only [wts]
    have hp := wt_pos (q.rs k) m
    rcases HJx.rep with ⟨e, -⟩ | ⟨i, ok, i0, i1, ⟨kd, e⟩ | ⟨kd, e, ei⟩⟩
    · rw [e]; simp only [wts]; omega
    · rw [e]
      have w1 : wt (q.rs k) m = 2 := by unfold wt; rw [if_pos kd]
      have w2 : wt (q.rs k) ⟨2, j, k, x.1.js.term, 0, 0, 0, ok, []⟩ = 1 := by unfold wt; rw [if_neg (by simp), if_neg (by simp), if_neg (by simp)]
      simp only [wts]
      omega
    · rw [e]
      have w1 : wt (q.rs k) m = 2 * m.index.toNat + 4 := by unfold wt; rw [if_neg (by omega), if_pos kd]
      have w2 : wt (q.rs k) ⟨4, j, k, x.1.js.term, i, 0, 0, ok, []⟩ < 2 * m.index.toNat + 4 := by
        unfold wt
        rw [if_neg (by simp), if_neg (by simp)]
        split
        · rename_i hh
          obtain ⟨-, h5, h6, h7⟩ := hh
          simp only at h5 h7 ⊢
          have := (h3 kd).2 h6
          rcases ei h5 with q1 | q1
          · omega
          · omega
        · omega
      simp only [wts]
      omega
theorem ZA.give_K (hI : QInv q g) (h : ZA up k L q) (hm : q.net = m :: l) {j : Nat} (hj : j < q.n) (hjk : j ≠ k) (hu : bitU up j) (hT : ToK k j m) :
    ZA up k L ((q.remove 0).give m).note ∧ weight k ((q.remove 0).give m).note + 1 ≤ weight k q := by
  have hfew := h.few
  rw [hm, List.length_cons] at hfew
  have hn5 := hI.ok.five
  obtain ⟨e1, e2, e3, e4⟩ := hT.ends
  obtain ⟨hrs, hnet, hnn⟩ := give_parts hm e2
  obtain ⟨o1, o2, o3⟩ := hI.ok.each k h.kn
  have HKx := handle_K o1 o2 o3 hj hjk hT
  have hxok := o1.handle (m := m) (by rw [e4]; intro x hx; cases hx)
  obtain ⟨hxi, hxn⟩ := handle_n (q.rs k) m
  generalize ((q.remove 0).give m).note = q' at *
  generalize (q.rs k).handle m = x at *
  have hl1 := HKx.len
  have hnet2 : q'.net = l ++ x.2 := by
    rw [hnet, sendAll_app]
    generalize (if x.1.role = 2 then q.n else 0) = c1 at hl1
    generalize (if (q.rs k).role = 2 then q.n else 0) = c2 at hl1 hfew
    omega
  have hk' : q'.rs k = x.1 := by rw [hrs, upd_self]
  have hxt := HKx.term
  have h1t : 1 ≤ m.term := by obtain ⟨t, i, ok, h1, h2, h3, h4, rfl | rfl⟩ := hT <;> exact h1
  have hlog : x.1.js.log = L := HKx.log.trans h.log
  refine ⟨⟨by rw [hnn]; exact h.kn, h.ku, by rw [hk']; exact hlog, fun i hi hUi => ?_, fun m' hm' => ?_, ?_, fun i hi hik hUi => ?_⟩, ?_⟩
  · by_cases e : i = k
    · subst e; rw [hk', hlog]; exact Better.refl _
    · rw [hrs, upd_ne e]; exact h.bet i (by omega) hUi
  · rw [hnet2] at hm'
    rw [hk', hnn]
    rcases List.mem_append.1 hm' with hm' | hm'
    · obtain ⟨i, i1, i2, i3⟩ := h.msg m' (by rw [hm]; simp [hm'])
      refine ⟨i, i1, i2, ?_⟩
      rcases i3 with ⟨f1, f2, f3⟩ | ⟨f1, f2, f3⟩
      · refine .inl ⟨f1, by omega, fun hh => ⟨fun hr => ?_, fun hr => ?_⟩⟩
        · exact (f3 hh).1 (HKx.role2 hr).1
        · obtain ⟨r1, r2 | r2⟩ := HKx.role3 hr
          · rw [r1]; exact (f3 hh).2 r2
          · exact absurd r2 (f3 hh).1
      · exact .inr ⟨f1, f2, fun hh hr => f3 hh (HKx.role2 hr).1⟩
    · obtain ⟨y1, d, y2, y3, rfl⟩ := HKx.rep m' hm'
      exact ⟨d, y2, y3, .inl ⟨⟨x.1, hxok, hlog, by omega, by omega, by omega, rfl, .inr ⟨y1, rfl⟩⟩, Int.le_refl _, fun _ => ⟨by omega, fun _ => rfl⟩⟩⟩
  · rw [hnet2, List.length_append, hk', hnn]
    generalize (if x.1.role = 2 then q.n else 0) = c1 at hl1 ⊢
    generalize (if (q.rs k).role = 2 then q.n else 0) = c2 at hl1 hfew
    omega
  · have hi' : q'.rs i = q.rs i := by rw [hrs, upd_ne hik]
    rw [hi', hk', hnet2]
    rcases h.tm i (by omega) hik hUi with a | ⟨m', a1, a2, a3⟩ | ⟨m', a1, a2, a3⟩
    · exact .inl (by omega)
    · rw [hm] at a1
      rcases List.mem_cons.1 a1 with rfl | a1
      · exact .inl (by omega)
      · exact .inr (.inl ⟨m', by simp [a1], a2, a3⟩)
    · rw [hm] at a1
      rcases List.mem_cons.1 a1 with rfl | a1
      · exfalso; omega
      · exact .inr (.inr ⟨m', by simp [a1], a2, a3⟩)
  · unfold weight
    rw [hnet2, hk', hm, wts_app]
    have hw := HKx.wt
    have hle : wts x.1 l ≤ wts (q.rs k) l := by
      refine wts_le fun m' hm' => ?_
      unfold wt
      split
      · exact Nat.le_refl _
      · split
        · exact Nat.le_refl _
        · split
          · rename_i h0 h1 hh
            obtain ⟨g1, g2, g3, g4⟩ := hh
            obtain ⟨r1, r2⟩ := HKx.role3 g3
            have r3 : (q.rs k).role = 3 := by
              rcases r2 with r2 | r2
              · exact r2
              · obtain ⟨i, i1, i2, i3⟩ := h.msg m' (by rw [hm]; simp [hm'])
                rcases i3 with ⟨f1, -⟩ | ⟨-, -, f3⟩
                · have := f1.ends; omega
                · exact absurd r2 (f3 g1)
            rw [if_pos ⟨g1, g2, r3, by omega⟩]
            exact Nat.le_refl _
          · split <;> omega
    simp only [wts]
    omega
theorem ZA.give (hI : QInv q g) (h : ZA up k L q) (hm : q.net = m :: l) (hin : inUp up m) : ZA up k L ((q.remove 0).give m).note ∧ weight k ((q.remove 0).give m).note + 1 ≤ weight k q := by
  obtain ⟨j, hj, hjk, hc⟩ := h.msg m (by rw [hm]; simp)
  rcases hc with ⟨hF, ht, h3⟩ | ⟨hu, hT, h4⟩
  · exact h.give_J hI hm hin hj hjk hF ht h3
  · exact h.give_K hI hm hj hjk hu hT
theorem remove_net (hm : q.net = m :: l) : (q.remove 0).net = l := by
  show q.net.eraseIdx 0 = l
  rw [hm]
  rfl
theorem ZA.skip (h : ZA up k L q) (hm : q.net = m :: l) (hin : ¬ inUp up m) : ZA up k L (q.remove 0) ∧ weight k (q.remove 0) + 1 ≤ weight k q := by
  have hn := remove_net hm
  have hrs : (q.remove 0).rs = q.rs := rfl
  have hnn : (q.remove 0).n = q.n := rfl
  have hfew := h.few
  rw [hm, List.length_cons] at hfew
  have hp := wt_pos (q.rs k) m
  refine ⟨⟨h.kn, h.ku, h.log, h.bet, fun m' hm' => ?_, ?_, fun i hi hik hUi => ?_⟩, ?_⟩
  · rw [hn] at hm'
    exact h.msg m' (by rw [hm]; simp [hm'])
  · rw [hn, hrs, hnn]
    generalize (if (q.rs k).role = 2 then q.n else 0) = c2 at hfew ⊢
    omega
  · rw [hn, hrs]
    rcases h.tm i hi hik hUi with a | ⟨m', a1, a2, a3⟩ | ⟨m', a1, a2, a3⟩
    · exact .inl a
    · rw [hm] at a1
      rcases List.mem_cons.1 a1 with rfl | a1
      · exfalso
        obtain ⟨j, hj, hjk, hc⟩ := h.msg m' (by rw [hm]; simp)
        rcases hc with ⟨hF, -⟩ | ⟨hu, hT, -⟩
        · have := hF.ends; omega
        · obtain ⟨e1, e2, -⟩ := hT.ends
          apply hin
          unfold inUp
          rw [e1, e2, Int.toNat_natCast, Int.toNat_natCast]
          rintro (q1 | q1)
          · exact hu q1
          · exact h.ku q1
      · exact .inr (.inl ⟨m', a1, a2, a3⟩)
    · rw [hm] at a1
      rcases List.mem_cons.1 a1 with rfl | a1
      · exfalso
        obtain ⟨j, hj, hjk, hc⟩ := h.msg m' (by rw [hm]; simp)
        rcases hc with ⟨hF, -⟩ | ⟨hu, hT, -⟩
        · obtain ⟨e1, e2, -⟩ := hF.ends
          apply hin
          unfold inUp
          rw [e1, a3, Int.toNat_natCast, Int.toNat_natCast]
          rintro (q1 | q1)
          · exact h.ku q1
          · exact hUi q1
        · have := hT.ends; omega
      · exact .inr (.inr ⟨m', a1, a2, a3⟩)
  · unfold weight
    rw [hn, hrs, hm]
    simp only [wts]
    omega
theorem ZA.flush {q' : Qs} {c c' : Nat} (hf : Flushes up q c q' c') : ∀ {g : Gh}, QInv q g → ZA up k L q → c + weight k q ≤ 5000 → ZA up k L q' ∧ q'.net = [] := by
  induction hf with
  | stop q c h0 =>
    intro g hI h hw
    refine ⟨h, ?_⟩
    rcases h0 with h0 | h0
    · exact h0
    · have := wts_len (q.rs k) q.net
      unfold weight at hw
      exact List.eq_nil_of_length_eq_zero (by omega)
  | skip q c m l q' c' hk hm h0 hn ih =>
    intro g hI h hw
    obtain ⟨h1, h2⟩ := h.skip hm h0
    exact ih (g := g) ⟨hI.ok.remove 0, hI.inv, fun m hm => hI.msgs m (List.mem_of_mem_eraseIdx hm), hI.done, hI.most⟩ h1 (by omega)
  | give q c m l q' c' hk hm h0 hn ih =>
    intro g hI h hw
    have hmem : m ∈ q.net := by rw [hm]; simp
    obtain ⟨g1, g2, g3⟩ := (hI.pre.remove 0).give (hI.ok.msgs m hmem) (hI.msgs m hmem)
    obtain ⟨h1, h2⟩ := h.give hI hm h0
    exact ih (g2.note).1 h1 (by omega)
/-- A campaign begins. -/
theorem act_campaign (hk : k < q.n) (num : Int) (e : En) : q.act 1 (k : Int) num e = (q.put k (q.rs k).campaign).note := by
  have hp : q.permits 1 (k : Int) num = true := by unfold Qs.permits; rw [if_pos (.inl rfl)]; simp; omega
  have hx : q.actX 1 (k : Int) num e = 0 := by unfold Qs.actX; rw [if_neg (by rw [hp]; simp), if_neg (by omega)]
  unfold Qs.act
  rw [if_neg (by rw [hx]; simp), if_pos rfl, Int.toNat_natCast]
theorem wts_votes (r r' : Rs) : ∀ l : List Nat, wts r (l.map r'.vote) = 2 * l.length := by
  intro l
  induction l with
  | nil => rfl
  | cons d l ih =>
    have h1 : wt r (r'.vote d) = 2 := by unfold wt; rw [if_pos (by simp [Rs.vote])]
    simp only [List.map_cons, wts, ih, h1, List.length_cons]
    omega
theorem ZA.start (hI : QInv q g) (hk : k < q.n) (hu : bitU up k) (hnet : q.net = []) (hbet : ∀ j, j < q.n → bitU up j → Better (q.rs k).js.log (q.rs j).js.log) (hterm : (q.rs k).js.term < 1073741824) (hlen : (q.rs k).js.log.length ≤ 200) (num : Int) (e : En) :
    ZA up k (q.rs k).js.log (q.act 1 (k : Int) num e) ∧ 0 + weight k (q.act 1 (k : Int) num e) ≤ 5000 := by
  rw [act_campaign hk]
  obtain ⟨o1, o2, o3⟩ := hI.ok.each k hk
  have hlo := o1.lo
  have hok2 := o1.campaign
  have hn5 := hI.ok.five
  have hpos := hI.ok.pos
  have hq1 : ((q.put k (q.rs k).campaign).note).rs = upd q.rs k (q.rs k).campaign.1 := rfl
  have hq2 : ((q.put k (q.rs k).campaign).note).net = sendAll q.net (q.rs k).campaign.2 := rfl
  have hq3 : ((q.put k (q.rs k).campaign).note).n = q.n := rfl
  rw [hnet] at hq2
  generalize (q.put k (q.rs k).campaign).note = q' at *
  have hk' : q'.rs k = (q.rs k).campaign.1 := by rw [hq1, upd_self]
  have hot : ∀ i, i ≠ k → q'.rs i = q.rs i := fun i hi => by rw [hq1, upd_ne hi]
  unfold Rs.campaign at hk' hq2 hok2
  rw [if_neg (by omega)] at hk' hq2 hok2
  by_cases h1 : (q.rs k).n = 1
  · rw [if_pos h1] at hk' hq2
    have hq2' : q'.net = [] := hq2
    refine ⟨⟨by omega, hu, by rw [hk']; rfl, fun i hi hUi => ?_, (fun m hm => by rw [hq2'] at hm; cases hm), ?_, fun i hi hik => by omega⟩, ?_⟩
    · by_cases e : i = k
      · subst e; rw [hk']; exact Better.refl _
      · rw [hot i e]; exact hbet i (by omega) hUi
    · rw [hq2', hk', if_neg (by simp [Rs.lead])]; simp
    · unfold weight
      rw [hq2', hk']
      simp [wts, cand, Rs.lead]
  · rw [if_neg h1] at hk' hq2 hok2
    have hol := others_le (q.rs k).id (q.rs k).n
    rw [sendAll_app _ _ (by simp only [List.length_nil, List.length_map]; omega), List.nil_append] at hq2
    refine ⟨⟨by omega, hu, by rw [hk'], fun i hi hUi => ?_, fun m hm => ?_, ?_, fun i hi hik hUi => .inr (.inr ?_)⟩, ?_⟩
    · by_cases e : i = k
      · subst e; rw [hk']; exact Better.refl _
      · rw [hot i e]; exact hbet i (by omega) hUi
    · rw [hq2] at hm
      obtain ⟨d, hd, rfl⟩ := List.mem_map.1 hm
      obtain ⟨d1, d2⟩ := others_mem.1 hd
      refine ⟨d, by omega, by omega, .inl ⟨⟨_, hok2, rfl, by simp only; omega, by simp only; omega, by simp only; omega, rfl, .inl rfl⟩, by rw [hk']; exact Int.le_refl _, fun hh => by simp [Rs.vote] at hh⟩⟩
    · rw [hq2, hk', if_pos rfl, List.length_map]; omega
    · refine ⟨_, by rw [hq2]; exact List.mem_map.2 ⟨i, others_mem.2 ⟨by omega, by omega⟩, rfl⟩, rfl, rfl⟩
    · unfold weight
      rw [hq2, hk', wts_votes]
      unfold cand
      rw [if_pos rfl]
      simp only
      have hm : (q.rs k).n * (2 * (q.rs k).js.log.length + 4) ≤ 5 * (2 * (q.rs k).js.log.length + 4) := Nat.mul_le_mul_right _ (by omega)
      omega
end
end Go.Proofs.Ytokblidfekbeeaa
/- The plain law of a quorum: a majority elects the replica with the best log, and what that proposes is committed. -/
namespace Go.Proofs.Ytokblidfekbeeaa
set_option linter.unusedVariables false

theorem cntB_mono {a b : Nat → Bool} : ∀ {n}, (∀ i, i < n → a i = true → b i = true) → cntB a n ≤ cntB b n := by
  intro n
  induction n with
  | zero => exact fun _ => Nat.le_refl _
  | succ n ih =>
    intro h
    have h1 := ih fun i hi => h i (by omega)
    have h2 := h n (by omega)
    simp only [cntB]
    cases ha : a n
    · simp; omega
    · rw [h2 ha]; simp; omega
theorem cntV_pow (k : Nat) : ∀ n, cntV (2 ^ k) n ≤ 1 ∧ (n ≤ k → cntV (2 ^ k) n = 0) := by
  intro n
  induction n with
  | zero => exact ⟨Nat.zero_le _, fun _ => rfl⟩
  | succ n ih =>
    simp only [cntV, testBit_pow]
    by_cases h : k = n
    · have := ih.2 (by omega)
      simp only [h, decide_true, if_true] at this ⊢
      omega
    · simp only [h, decide_false]
      refine ⟨by simpa using ih.1, fun hh => by simpa using ih.2 (by omega)⟩
theorem stores_congr {r r' : Rs} (h1 : r'.id = r.id) (h2 : r'.mtch = r.mtch) (m : Nat) : ∀ k, r'.stores m k = r.stores m k := by
  intro k
  induction k with
  | zero => rfl
  | succ k ih => simp only [Rs.stores, ih, h1, h2]
theorem stores_zero {r : Rs} (h : ∀ i, r.mtch i = 0) {m : Nat} (hm : 0 < m) : ∀ k, r.stores m k = 1 := by
  intro k
  induction k with
  | zero => rfl
  | succ k ih =>
    simp only [Rs.stores, ih, h]
    rw [if_neg (by omega)]
theorem advG_top {r : Rs} (h1 : termAt r.js.log ((r.js.log.length : Int) - 1) = r.js.term) (h2 : r.n < 2 * r.stores r.js.log.length r.n) : r.js.log.length ≤ r.advG r.js.log.length := by
  generalize r.js.log.length = c at *
  rcases c with _ | c
  · exact Nat.zero_le _
  · simp only [Rs.advG]
    split
    · assumption
    · rw [if_pos ⟨by rw [← h1]; congr 1; omega, h2⟩]
      exact Nat.le_refl _
theorem better_pre {L l : List Lg} {a : Int} (ho : LogOk l a) (h : L <+: l) (hb : Better L l) : l = L := by
  have hle := h.length_le
  by_cases he : l.length = L.length
  · exact (h.eq_of_length he.symm).symm
  · exfalso
    obtain ⟨x, hx⟩ : ∃ x, l[l.length - 1]? = some x := ⟨_, List.getElem?_eq_getElem (by omega)⟩
    have h1 := (ho.each x (List.mem_of_getElem? hx)).1
    have hl : lastT l = x.term := by unfold lastT; rw [show (l.length : Int) - 1 = ((l.length - 1 : Nat) : Int) from by omega, termAt_at hx]
    have hL : lastT L ≤ lastT l := by
      rcases Nat.eq_zero_or_pos L.length with h0 | h0
      · have : lastT L = 0 := by unfold lastT; rw [h0, termAt_neg (by omega)]
        omega
      · rw [lastT_at h0, ← termAt_pre h (i := L.length - 1) (by omega), lastT_at (by omega)]
        exact ho.mono (by omega) (by omega)
    rcases hb with hb | hb
    · omega
    · omega

/-- What a replica of the set answers a leader whose term is the greatest. -/
structure HJB (r : Rs) (m : Ms) (k j : Nat) (L : List Lg) (T : Int) (x : Rs × List Ms) : Prop where
  term : x.1.js.term = T
  role : x.1.role = 1
  vote : x.1.js.vote = -1 ∨ x.1.js.vote = k
  rep : (m.kind = 1 ∧ x.2 = [⟨2, j, k, T, 0, 0, 0, true, []⟩]) ∨ (m.kind = 3 ∧ ∃ i ok, x.2 = [⟨4, j, k, T, i, 0, 0, ok, []⟩] ∧ (ok = true → i = L.length ∧ x.1.js.log = L))
theorem handle_JB {r : Rs} {m : Ms} {k j n : Nat} {L : List Lg} {T : Int} (hr : RsOk r) (hid : r.id = j) (hn : r.n = n) (hjk : j ≠ k) (hm : FromK k L n m j) (hT : m.term = T) (hle : r.js.term ≤ T)
    (hvr : r.js.term = T → r.role = 1 ∧ (r.js.vote = -1 ∨ r.js.vote = k)) (hb : Better L r.js.log)
    (hag : m.kind = 3 → r.fits m = true → r.js.log.take (m.index.toNat + matchK r.js.log m.index.toNat m.es) = L.take (m.index.toNat + matchK r.js.log m.index.toNat m.es))
    (hcom : r.js.log.take r.commit <+: L) : HJB r m k j L T (r.handle m) := by
  have hp := hm.proper hid hn hjk
  rw [handle_takes hp]
  obtain ⟨t1, t2⟩ := meets_max r m.term
  obtain ⟨i1, i2, -, i4⟩ := meets_eq r m.term
  have o1 := hr.meets m.term hp.t1
  have p1 := hp.of_meets m.term
  have hfit : (r.meets m.term).fits m = r.fits m := by unfold Rs.fits; rw [t2]
  have hrv : (r.meets m.term).role = 1 ∧ ((r.meets m.term).js.vote = -1 ∨ (r.meets m.term).js.vote = k) := by
    unfold Rs.meets
    split
    · exact ⟨rfl, .inl rfl⟩
    · exact hvr (by omega)
  obtain ⟨r', h1, h2, h3, h4, h5, h6, h7⟩ := hm
  generalize r.meets m.term = r1 at *
  obtain ⟨hro, hvo⟩ := hrv
  have htT : r1.js.term = T := by omega
  rcases h7 with h7 | ⟨h8, h7⟩
  · have hk : m.kind = 1 := by rw [h7]; rfl
    have hf : m.from_ = k := by rw [h7]; simp only [Rs.vote]; rw [h3]
    have hix : m.index = L.length := by rw [h7]; simp only [Rs.vote]; rw [h2]
    have hpv : m.prev = lastT L := by rw [h7]; simp only [Rs.vote]; rw [h2]
    have hg : r1.grants m = true := by
      unfold Rs.grants
      simp only [decide_eq_true_eq]
      refine ⟨by omega, by rw [hf]; exact hvo, ?_⟩
      rw [t2, hix, hpv]
      rcases hb with hb | hb
      · exact .inl hb
      · exact .inr ⟨hb.1, by omega⟩
    unfold Rs.takes
    rw [if_pos hk]
    unfold Rs.onVote
    rw [hg]
    simp only [if_true]
    refine ⟨by simp only; omega, hro, .inr hf, .inl ⟨hk, ?_⟩⟩
    simp only
    rw [i1, hid, hf, htT]
  · have hk : m.kind = 3 := by rw [h7]; rfl
    have hf : m.from_ = k := by rw [h7]; simp only [Rs.app]; rw [h3]
    have hes : m.es = L.drop m.index.toNat := by rw [h7]; simp only [Rs.app, Int.toNat_natCast]; rw [h2]
    have hnx := h1.nxt h8 j
    have hix : m.index.toNat ≤ L.length := by rw [h7]; simp only [Rs.app, Int.toNat_natCast]; rw [← h2]; exact hnx
    have hlen : m.es.length = L.length - m.index.toNat := by rw [hes, List.length_drop]
    have hi0 := hp.i0
    unfold Rs.takes
    rw [if_neg (by omega), if_neg (by omega), if_pos hk]
    unfold Rs.onAppend
    rw [if_neg (by omega), if_neg (by omega)]
    split
    · rename_i hfl
      refine ⟨htT, rfl, hvo, .inr ⟨hk, min (r1.js.log.length : Int) (m.index - 1), false, ?_, fun hh => by cases hh⟩⟩
      simp only [Rs.answer]
      rw [i1, hid, hf, htT]
    · rename_i g3
      have ht2 : m.term = r1.js.term := by omega
      have g3' : r1.fits m = true := by simpa using g3
      obtain ⟨k1, k2⟩ := take_log o1 p1 hk ht2 g3'
      have hag2 := hag hk (by rw [← hfit]; exact g3')
      rw [← t2] at hag2
      have hst := matchK_stop r1.js.log m.es m.index.toNat
      have hml := matchK_le r1.js.log m.es m.index.toNat
      split
      · rename_i g4
        split
        · rename_i g5
          exfalso
          obtain ⟨y, y1, y2⟩ := hst g4
          rw [i4] at g5
          have hc2 := hr.com
          have hz : r1.js.log[m.index.toNat + matchK r1.js.log m.index.toNat m.es]? = some y := by
            rw [hes, List.getElem?_drop, ← hes] at y1
            rw [← y1, t2]
            have := pre_get hcom (i := m.index.toNat + matchK r.js.log m.index.toNat m.es) (by rw [List.length_take]; rw [t2] at g5; omega)
            rw [List.getElem?_take, if_pos (by rw [t2] at g5; exact g5)] at this
            exact this.symm
          exact y2 (termAt_at hz)
        · clear hst
          rw [k2 g4]
          refine ⟨htT, rfl, hvo, .inr ⟨hk, m.index + m.es.length, true, ?_, fun _ => ⟨by omega, ?_⟩⟩⟩
          · simp only [Rs.answer]
            rw [i1, hid, hf, htT]
          · simp only
            rw [hag2, hes, List.drop_drop]
            exact List.take_append_drop _ _
      · rename_i g4
        clear hst
        have hlog : r1.js.log = L := by
          have e : m.index.toNat + matchK r1.js.log m.index.toNat m.es = L.length := by omega
          rw [e, List.take_length] at hag2
          exact better_pre o1.log (by rw [← hag2]; exact take_pre _ _) (by rw [t2]; exact hb)
        refine ⟨htT, rfl, hvo, .inr ⟨hk, m.index + m.es.length, true, ?_, fun _ => ⟨by omega, hlog⟩⟩⟩
        simp only [Rs.answer]
        rw [i1, hid, hf, htT]

structure ZB (up : Int) (k : Nat) (L : List Lg) (T : Int) (q : Qs) : Prop where
  za : ZA up k L q
  tk : (q.rs k).js.term = T
  t1 : 1 ≤ T
  rk : (q.rs k).role = 2 ∨ (q.rs k).role = 3
  cand : (q.rs k).role = 2 → 2 * cntV (q.rs k).votes q.n ≤ q.n ∧ (q.rs k).votes.testBit k = true
  oth : ∀ j, j < q.n → j ≠ k → bitU up j → (q.rs j).js.term ≤ T ∧ ((q.rs j).js.term = T → (q.rs j).role = 1 ∧ ((q.rs j).js.vote = -1 ∨ (q.rs j).js.vote = k))
  mt : ∀ m ∈ q.net, m.term = T
  mv : ∀ m ∈ q.net, m.kind = 2 → m.ok = true
  ms : ∀ m ∈ q.net, m.kind = 4 → m.ok = true → m.index = L.length ∧ ∀ j : Nat, m.from_ = j → (q.rs j).js.log = L ∧ (q.rs j).js.term = T
  vt : ∀ j, j < q.n → j ≠ k → bitU up j → (q.rs k).role = 3 ∨ (q.rs k).votes.testBit j = true ∨ ∃ m ∈ q.net, (m.kind = 2 ∧ m.from_ = j) ∨ (m.kind = 1 ∧ m.to_ = j)
  ac : (q.rs k).role = 3 → ∀ j, j < q.n → j ≠ k → bitU up j → ((q.rs k).mtch j = L.length ∧ (q.rs k).next j = L.length ∧ (q.rs j).js.log = L ∧ (q.rs j).js.term = T) ∨ ∃ m ∈ q.net, (m.kind = 3 ∧ m.to_ = j) ∨ (m.kind = 4 ∧ m.from_ = j)
  co : (q.rs k).role = 3 → termAt L ((L.length : Int) - 1) = T → q.n < 2 * (q.rs k).stores L.length q.n → L.length ≤ (q.rs k).commit
abbrev MajU (up : Int) (n : Nat) : Prop := n < 2 * cntB (fun i => decide (bitU up i)) n
section
variable {up : Int} {k : Nat} {L : List Lg} {T : Int} {q : Qs} {g : Gh} {m : Ms} {l : List Ms}
theorem ZB.maj (h : ZB up k L T q) (hU : MajU up q.n) : Maj q.n fun i => (q.rs i).js.term ≤ (q.rs k).js.term := by
  refine ⟨fun i => decide (bitU up i), fun i hi hb => ?_, hU⟩
  have hb : bitU up i := by simpa using hb
  by_cases e : i = k
  · rw [e]; exact Int.le_refl _
  · rw [h.tk]; exact (h.oth i hi e hb).1
theorem ZB.give_J (hI : QInv q g) (h : ZB up k L T q) (hU : MajU up q.n) (hm : q.net = m :: l) (hin : inUp up m) {j : Nat} (hj : j < q.n) (hjk : j ≠ k)
    (hF : FromK k L q.n m j) (h3 : m.kind = 3 → (q.rs k).role ≠ 2) : ZB up k L T ((q.remove 0).give m).note := by
  obtain ⟨hza, -⟩ := h.za.give hI hm hin
  obtain ⟨e1, e2, e3, e4, e5⟩ := hF.ends
  have hUj := inUp_to hin e2
  obtain ⟨hrs, hnet, hnn⟩ := give_parts hm e2
  obtain ⟨o1, o2, o3⟩ := hI.ok.each j hj
  have hmem : m ∈ q.net := by rw [hm]; simp
  have hn5 := hI.ok.five
  have hfew := h.za.few
  rw [hm, List.length_cons] at hfew
  have HJx := h.za.hj hI hm hj hjk hF
  have hL : Pref g.gl L := by have := hI.inv.l1 k h.za.kn; rw [h.za.log] at this; exact this
  obtain ⟨p1, p2⟩ := h.oth j hj hjk hUj
  have HJB : HJB (q.rs j) m k j L T ((q.rs j).handle m) := by
    by_cases h30 : m.kind = 3
    · have hr3 : (q.rs k).role = 3 := by
        rcases h.rk with e | e
        · exact absurd e (h3 h30)
        · exact e
      have hcom : (q.rs j).js.log.take (q.rs j).commit <+: L := by
        have := hI.inv.lead_has h.za.kn hr3 (h.maj hU) (hI.inv.c9 j hj)
        rw [h.za.log] at this
        exact this
      exact handle_JB o1 o2 o3 hjk hF (h.mt m hmem) p1 p2 (h.za.bet j hj hUj) (fun a b => (agree_L hI.inv hj hL (hI.msgs m hmem) hF a b).1) hcom
    · have hp := hF.proper o2 o3 hjk
      have hk1 : m.kind = 1 := by omega
      refine ⟨?_, ?_, ?_, ?_⟩
      all_goals
        have hx := handle_JB (r := { q.rs j with commit := 0 }) (m := m) (k := k) (j := j) (n := q.n) (L := L) (T := T) ⟨o1.log, o1.lo, o1.hi, o1.vlo, o1.vhi, o1.idn, o1.five, o1.role, Nat.zero_le _, o1.vts, o1.nxt, o1.mts⟩ o2 o3 hjk hF (h.mt m hmem) p1 p2 (h.za.bet j hj hUj) (fun a => absurd a h30) (by simp only [List.take_zero]; exact List.nil_prefix)
        have he : ({ q.rs j with commit := 0 } : Rs).handle m = ({ ((q.rs j).handle m).1 with commit := 0 }, ((q.rs j).handle m).2) := by
          have hp2 : Proper ({ q.rs j with commit := 0 } : Rs) m := hF.proper o2 o3 hjk
          rw [handle_takes hp, handle_takes hp2]
          unfold Rs.takes
          rw [if_pos hk1, if_pos hk1]
          unfold Rs.onVote Rs.meets Rs.grants
          simp only
          split <;> (simp only; split <;> rfl)
        rw [he] at hx
      · exact hx.term
      · exact hx.role
      · exact hx.vote
      · rcases hx.rep with hh | ⟨hh, -⟩
        · exact .inl hh
        · exact absurd hh h30
  generalize ((q.remove 0).give m).note = q' at *
  generalize (q.rs j).handle m = x at *
  obtain ⟨x2, hx2⟩ : ∃ y, x.2 = [y] := by rcases HJB.rep with ⟨-, e⟩ | ⟨-, i, ok, e, -⟩ <;> exact ⟨_, e⟩
  have hfew2 := hfew
  generalize (if (q.rs k).role = 2 then q.n else 0) = cn at hfew2
  have hl2 : x.2.length = 1 := by rw [hx2]; rfl
  rw [sendAll_app _ _ (by omega)] at hnet
  have hk' : q'.rs k = q.rs k := by rw [hrs, upd_ne (Ne.symm hjk)]
  have hj' : q'.rs j = x.1 := by rw [hrs, upd_self]
  have hoth : ∀ i, i ≠ j → q'.rs i = q.rs i := fun i hi => by rw [hrs, upd_ne hi]
  have hkeep : ∀ i, (q.rs i).js.log = L ∧ (q.rs i).js.term = T → (q'.rs i).js.log = L ∧ (q'.rs i).js.term = T := by
    intro i hi
    by_cases e : i = j
    · subst e
      rw [hj']
      refine ⟨?_, HJB.term⟩
      rcases HJx.log with e | e
      · rw [e]; exact hi.1
      · exact e
    · rw [hoth i e]; exact hi
  have hmem' : ∀ m', m' ∈ q'.net → m' ∈ q.net ∨ m' ∈ x.2 := by
    intro m' hm'
    rw [hnet] at hm'
    rcases List.mem_append.1 hm' with hm' | hm'
    · exact .inl (by rw [hm]; simp [hm'])
    · exact .inr hm'
  have hold : ∀ m', m' ∈ q.net → m' ≠ m → m' ∈ q'.net := by
    intro m' hm' hne
    rw [hm] at hm'
    rcases List.mem_cons.1 hm' with e | hm'
    · exact absurd e hne
    · rw [hnet]; simp [hm']
  have hnew : ∀ y, y ∈ x.2 → y ∈ q'.net := fun y hy => by rw [hnet]; simp [hy]
  refine ⟨hza, by rw [hk']; exact h.tk, h.t1, by rw [hk']; exact h.rk, by rw [hk', hnn]; exact h.cand, fun i hi hik hUi => ?_, fun m' hm' => ?_, fun m' hm' hk2 => ?_, fun m' hm' hk4 hok => ?_, fun i hi hik hUi => ?_, fun hr i hi hik hUi => ?_, by rw [hk', hnn]; exact h.co⟩
  · by_cases e : i = j
    · subst e
      rw [hj']
      exact ⟨by rw [HJB.term]; exact Int.le_refl _, fun _ => ⟨HJB.role, HJB.vote⟩⟩
    · rw [hoth i e]; exact h.oth i (by omega) hik hUi
  · rcases hmem' m' hm' with hm' | hm'
    · exact h.mt m' hm'
    · rcases HJB.rep with ⟨-, e⟩ | ⟨-, i, ok, e, -⟩ <;> (rw [e, List.mem_singleton] at hm'; subst hm'; rfl)
  · rcases hmem' m' hm' with hm' | hm'
    · exact h.mv m' hm' hk2
    · rcases HJB.rep with ⟨-, e⟩ | ⟨-, i, ok, e, -⟩
      · rw [e, List.mem_singleton] at hm'; subst hm'; rfl
      · rw [e, List.mem_singleton] at hm'; subst hm'; simp at hk2
  · rcases hmem' m' hm' with hm' | hm'
    · obtain ⟨a1, a2⟩ := h.ms m' hm' hk4 hok
      exact ⟨a1, fun j' hj' => hkeep j' (a2 j' hj')⟩
    · rcases HJB.rep with ⟨-, e⟩ | ⟨-, i, ok, e, e5⟩
      · rw [e, List.mem_singleton] at hm'; subst hm'; simp at hk4
      · rw [e, List.mem_singleton] at hm'
        subst hm'
        simp only at hok
        obtain ⟨a1, a2⟩ := e5 hok
        refine ⟨a1, fun j2 hj2 => ?_⟩
        have : j2 = j := by simp only at hj2; omega
        rw [this, hj']
        exact ⟨a2, HJB.term⟩
  · rw [hk']
    rcases h.vt i (by omega) hik hUi with a | a | ⟨m', a1, a2⟩
    · exact .inl a
    · exact .inr (.inl a)
    · by_cases e : m' = m
      · subst e
        have hij : i = j := by omega
        have hk1 : m'.kind = 1 := by omega
        rcases HJB.rep with ⟨-, e⟩ | ⟨hh, -⟩
        · exact .inr (.inr ⟨_, hnew _ (by rw [e]; exact List.mem_singleton.2 rfl), .inl ⟨rfl, by simp only; omega⟩⟩)
        · omega
      · exact .inr (.inr ⟨m', hold m' a1 e, a2⟩)
  · rw [hk'] at hr ⊢
    rcases h.ac hr i (by omega) hik hUi with ⟨a1, a2, a3⟩ | ⟨m', a1, a2⟩
    · exact .inl ⟨a1, a2, hkeep i a3⟩
    · by_cases e : m' = m
      · subst e
        have hij : i = j := by omega
        have hk3 : m'.kind = 3 := by omega
        rcases HJB.rep with ⟨hh, -⟩ | ⟨-, i', ok, e, -⟩
        · omega
        · exact .inr ⟨_, hnew _ (by rw [e]; exact List.mem_singleton.2 rfl), .inr ⟨rfl, by simp only; omega⟩⟩
      · exact .inr ⟨m', hold m' a1 e, a2⟩
end
end Go.Proofs.Ytokblidfekbeeaa
/- The plain law of a quorum: a majority elects the replica with the best log, and what that proposes is committed (end). -/
namespace Go.Proofs.Ytokblidfekbeeaa
set_option linter.unusedVariables false

/-- What k, whose term is the greatest, makes of an answer. -/
structure HKB (r : Rs) (m : Ms) (k n : Nat) (L : List Lg) (x : Rs × List Ms) : Prop where
  role : x.1.role = 2 ∨ x.1.role = 3
  cand : x.1.role = 2 → r.role = 2 ∧ m.kind = 2 ∧ x.2 = [] ∧ 2 * cntV x.1.votes n ≤ n ∧ (∀ i, r.votes.testBit i = true → x.1.votes.testBit i = true) ∧ x.1.votes.testBit m.from_.toNat = true
  lead : x.1.role = 3 → (r.role = 2 ∧ (∀ i, x.1.mtch i = 0) ∧ x.2 = (others k n).map x.1.app) ∨
    (r.role = 3 ∧ m.kind = 2 ∧ x = (r, [])) ∨
    (r.role = 3 ∧ m.kind = 4 ∧ m.ok = false ∧ x.1.mtch = r.mtch ∧ (∀ i, i ≠ m.from_.toNat → x.1.next i = r.next i) ∧ x.1.commit = r.commit ∧ x.2 = [x.1.app m.from_.toNat]) ∨
    (r.role = 3 ∧ m.kind = 4 ∧ m.ok = true ∧ (∀ i, i ≠ m.from_.toNat → x.1.next i = r.next i ∧ x.1.mtch i = r.mtch i) ∧ (m.index = L.length → x.1.mtch m.from_.toNat = L.length ∧ x.1.next m.from_.toNat = L.length) ∧ x.2 = [] ∧ (m.index = L.length → termAt L ((L.length : Int) - 1) = r.js.term → n < 2 * x.1.stores L.length n → L.length ≤ x.1.commit))
theorem adv_key (A : Rs) {L : List Lg} {n : Nat} (hL : A.js.log = L) (hn : A.n = n) (h1 : termAt L ((L.length : Int) - 1) = A.js.term) (h2 : n < 2 * A.advance.stores L.length n) : L.length ≤ A.advance.commit := by
  rw [stores_congr (r := A) (r' := A.advance) rfl rfl] at h2
  subst hL hn
  exact advG_top h1 h2
theorem handle_KB {r : Rs} {m : Ms} {k j n : Nat} {L : List Lg} (hr : RsOk r) (hid : r.id = k) (hn : r.n = n) (hj : j < n) (hjk : j ≠ k) (hm : ToK k j m) (hT : m.term = r.js.term) (hro : r.role = 2 ∨ r.role = 3) (hL : r.js.log = L) (hv : m.kind = 2 → m.ok = true) (h4 : m.kind = 4 → r.role ≠ 2) : HKB r m k n L (r.handle m) := by
  have hp := hm.proper hid hn hj hjk
  rw [handle_takes hp]
  have hme : r.meets m.term = r := by unfold Rs.meets; rw [if_neg (by omega)]
  rw [hme]
  obtain ⟨e1, e2, e3, e4⟩ := hm.ends
  rcases e3 with hk | hk
  · unfold Rs.takes
    rw [if_neg (by omega), if_pos hk]
    unfold Rs.onVoted
    rcases hro with hr2 | hr3
    · have hok := hv hk
      rw [if_neg (by rw [hok]; simp; omega)]
      split
      · rename_i hc
        refine ⟨.inl hr2, fun _ => ⟨hr2, hk, rfl, by rw [← hn]; exact hc, fun i hi => ?_, ?_⟩, fun hh => by simp only at hh; omega⟩
        · simp only [Nat.testBit_or, hi, Bool.true_or]
        · simp only [Nat.testBit_or, testBit_pow]
          simp
      · refine ⟨.inr rfl, fun hh => by simp [Rs.lead] at hh, fun _ => .inl ⟨hr2, fun _ => rfl, ?_⟩⟩
        show (others r.id r.n).map _ = _
        rw [hid, hn]
    · rw [if_pos (.inl (by omega))]
      exact ⟨.inr hr3, fun hh => by simp only at hh; omega, fun _ => .inr (.inl ⟨hr3, hk, rfl⟩)⟩
  · have hr3 : r.role = 3 := by
      rcases hro with e | e
      · exact absurd e (h4 hk)
      · exact e
    unfold Rs.takes
    rw [if_neg (by omega), if_neg (by omega), if_neg (by omega)]
    unfold Rs.onStored
    rw [if_neg (by omega)]
    split
    · rename_i g2
      exact ⟨.inr hr3, fun hh => by simp only at hh; omega, fun _ => .inr (.inr (.inl ⟨hr3, hk, g2, rfl, fun i hi => by simp only [setAt]; rw [if_neg hi], rfl, rfl⟩))⟩
    · rename_i g2
      have hok : m.ok = true := by simpa using g2
      have hmt := hr.mts hr3 m.from_.toNat
      rw [hL] at hmt
      split
      · rename_i g3
        refine ⟨.inr hr3, fun hh => by simp only [Rs.advance] at hh; omega, fun _ => .inr (.inr (.inr ⟨hr3, hk, hok, fun i hi => by simp only [Rs.advance, setAt]; rw [if_neg hi, if_neg hi]; exact ⟨rfl, rfl⟩, fun hi => ?_, rfl, fun hi h1 h2 => ?_⟩))⟩
        · simp only [Rs.advance, setAt, if_true]
          omega
        · exact adv_key _ hL hn h1 h2
      · rename_i g3
        refine ⟨.inr hr3, fun hh => by simp only at hh; omega, fun _ => .inr (.inr (.inr ⟨hr3, hk, hok, fun i hi => ⟨rfl, rfl⟩, fun hi => ?_, rfl, fun hi => ?_⟩))⟩
        · rw [hL] at g3; omega
        · rw [hL] at g3; omega
section
variable {up : Int} {k : Nat} {L : List Lg} {T : Int} {q : Qs} {g : Gh} {m : Ms} {l : List Ms}
theorem ZB.give_K (hI : QInv q g) (h : ZB up k L T q) (hm : q.net = m :: l) (hin : inUp up m) {j : Nat} (hj : j < q.n) (hjk : j ≠ k)
    (hu : bitU up j) (hF : ToK k j m) (h4 : m.kind = 4 → (q.rs k).role ≠ 2) : ZB up k L T ((q.remove 0).give m).note := by
  obtain ⟨hza, -⟩ := h.za.give hI hm hin
  obtain ⟨e1, e2, e3, e4⟩ := hF.ends
  obtain ⟨hrs, hnet, hnn⟩ := give_parts hm e2
  obtain ⟨o1, o2, o3⟩ := hI.ok.each k h.za.kn
  have hmem : m ∈ q.net := by rw [hm]; simp
  have hn5 := hI.ok.five
  have hkn := h.za.kn
  have hfew := h.za.few
  rw [hm, List.length_cons] at hfew
  have hmt := h.mt m hmem
  have htk := h.tk
  have HK := handle_K o1 o2 o3 hj hjk hF
  have HKB := handle_KB o1 o2 o3 hj hjk hF (by omega) h.rk h.za.log (h.mv m hmem) h4
  have hms := h.ms m hmem
  generalize ((q.remove 0).give m).note = q' at *
  generalize (q.rs k).handle m = x at *
  have hl1 := HK.len
  have hnet2 : q'.net = l ++ x.2 := by
    rw [hnet, sendAll_app]
    generalize (if x.1.role = 2 then q.n else 0) = c1 at hl1
    generalize (if (q.rs k).role = 2 then q.n else 0) = c2 at hl1 hfew
    omega
  have hf : m.from_.toNat = j := by omega
  have hcand := HKB.cand
  have hlead := HKB.lead
  rw [hf] at hcand hlead
  have hk' : q'.rs k = x.1 := by rw [hrs, upd_self]
  have hoth : ∀ i, i ≠ k → q'.rs i = q.rs i := fun i hi => by rw [hrs, upd_ne hi]
  have hxT : x.1.js.term = T := by have := HK.term; omega
  have hlog : x.1.js.log = L := HK.log.trans h.za.log
  have hmem' : ∀ m', m' ∈ q'.net → m' ∈ q.net ∨ (m' ∈ x.2 ∧ m'.kind = 3 ∧ m'.term = T) := by
    intro m' hm'
    rw [hnet2] at hm'
    rcases List.mem_append.1 hm' with hm' | hm'
    · exact .inl (by rw [hm]; simp [hm'])
    · obtain ⟨-, d, -, -, rfl⟩ := HK.rep m' hm'
      exact .inr ⟨hm', rfl, hxT⟩
  have hold : ∀ m', m' ∈ q.net → m' ≠ m → m' ∈ q'.net := by
    intro m' hm' hne
    rw [hm] at hm'
    rcases List.mem_cons.1 hm' with e | hm'
    · exact absurd e hne
    · rw [hnet2]; simp [hm']
  have hnew : ∀ y, y ∈ x.2 → y ∈ q'.net := fun y hy => by rw [hnet2]; simp [hy]
  refine ⟨hza, by rw [hk']; exact hxT, h.t1, by rw [hk']; exact HKB.role, ?_, fun i hi hik hUi => ?_, fun m' hm' => ?_, fun m' hm' hk2 => ?_, fun m' hm' hk4 hok => ?_, fun i hi hik hUi => ?_, ?_, ?_⟩
  · rw [hk', hnn]
    intro hr2
    obtain ⟨a1, a2, a3, a4, a5, a6⟩ := hcand hr2
    exact ⟨a4, a5 k (h.cand a1).2⟩
  · rw [hoth i hik]; exact h.oth i (by omega) hik hUi
  · rcases hmem' m' hm' with hm' | ⟨-, -, hm'⟩
    · exact h.mt m' hm'
    · exact hm'
  · rcases hmem' m' hm' with hm' | ⟨-, hm', -⟩
    · exact h.mv m' hm' hk2
    · omega
  · rcases hmem' m' hm' with hm' | ⟨-, hm', -⟩
    · obtain ⟨a1, a2⟩ := h.ms m' hm' hk4 hok
      refine ⟨a1, fun i hi => ?_⟩
      have hik : i ≠ k := by
        obtain ⟨d, d1, d2, d3⟩ := h.za.msg m' hm'
        rcases d3 with ⟨f1, -⟩ | ⟨-, f2, -⟩
        · have := f1.ends; omega
        · have := f2.ends; omega
      rw [hoth i hik]; exact a2 i hi
    · omega
  · rw [hk']
    rcases HKB.role with hr2 | hr3
    · obtain ⟨a1, a2, a3, a4, a5, a6⟩ := hcand hr2
      rcases h.vt i (by omega) hik hUi with b | b | ⟨m', b1, b2⟩
      · omega
      · exact .inr (.inl (a5 i b))
      · by_cases e : m' = m
        · subst e
          have hij : i = j := by omega
          exact .inr (.inl (by rw [hij]; exact a6))
        · exact .inr (.inr ⟨m', hold m' b1 e, b2⟩)
    · exact .inl hr3
  · rw [hk']
    intro hr3 i hi hik hUi
    rw [hoth i hik]
    rcases hlead hr3 with ⟨a1, a2, a3⟩ | ⟨a1, a2, a3⟩ | ⟨a1, a2, a3, a4, a5, a6, a7⟩ | ⟨a1, a2, a3, a4, a5, a6, a7⟩
    · exact .inr ⟨x.1.app i, hnew _ (by rw [a3]; exact List.mem_map.2 ⟨i, others_mem.2 ⟨by omega, hik⟩, rfl⟩), .inl ⟨rfl, rfl⟩⟩
    · rcases h.ac a1 i (by omega) hik hUi with b | ⟨m', b1, b2⟩
      · rw [a3]; exact .inl b
      · exact .inr ⟨m', hold m' b1 (by rintro rfl; omega), b2⟩
    · by_cases e : i = j
      · exact .inr ⟨x.1.app j, hnew _ (by rw [a7]; exact List.mem_singleton.2 rfl), .inl ⟨rfl, by rw [e]; rfl⟩⟩
      · rcases h.ac a1 i (by omega) hik hUi with ⟨b1, b2, b3⟩ | ⟨m', b1, b2⟩
        · exact .inl ⟨by rw [a4]; exact b1, by rw [a5 i e]; exact b2, b3⟩
        · exact .inr ⟨m', hold m' b1 (by rintro rfl; omega), b2⟩
    · obtain ⟨c1, c2⟩ := hms a2 a3
      by_cases e : i = j
      · rw [e]
        obtain ⟨d1, d2⟩ := a5 c1
        exact .inl ⟨d1, d2, c2 j e1⟩
      · rcases h.ac a1 i (by omega) hik hUi with ⟨b1, b2, b3⟩ | ⟨m', b1, b2⟩
        · obtain ⟨d1, d2⟩ := a4 i e
          exact .inl ⟨by rw [d2]; exact b1, by rw [d1]; exact b2, b3⟩
        · exact .inr ⟨m', hold m' b1 (by rintro rfl; omega), b2⟩
  · rw [hk', hnn]
    intro hr3 h1 h2
    rcases hlead hr3 with ⟨a1, a2, a3⟩ | ⟨a1, a2, a3⟩ | ⟨a1, a2, a3, a4, a5, a6, a7⟩ | ⟨a1, a2, a3, a4, a5, a6, a7⟩
    · exfalso
      rcases Nat.eq_zero_or_pos L.length with h0 | h0
      · rw [h0, termAt_neg (by omega)] at h1
        have := h.t1
        omega
      · rw [stores_zero a2 h0] at h2
        omega
    · rw [a3] at h2 ⊢
      exact h.co a1 h1 h2
    · rw [a6]
      have hxid : x.1.id = (q.rs k).id := by
        obtain ⟨j2, -, -, h9⟩ := hza.msg (x.1.app j) (hnew _ (by rw [a7]; exact List.mem_singleton.2 rfl))
        rcases h9 with ⟨f1, -⟩ | ⟨-, f2, -⟩
        · have := f1.ends.1
          simp only [Rs.app] at this
          omega
        · have := f2.ends.2.2.1
          simp [Rs.app] at this
      rw [stores_congr hxid a4] at h2
      exact h.co a1 h1 h2
    · exact a7 (hms a2 a3).1 (by rw [htk]; exact h1) h2
theorem ZB.give (hI : QInv q g) (h : ZB up k L T q) (hU : MajU up q.n) (hm : q.net = m :: l) (hin : inUp up m) : ZB up k L T ((q.remove 0).give m).note := by
  obtain ⟨j, hj, hjk, hc⟩ := h.za.msg m (by rw [hm]; simp)
  rcases hc with ⟨hF, ht, h3⟩ | ⟨hu, hT, h4⟩
  · exact h.give_J hI hU hm hin hj hjk hF fun hh => (h3 hh).1
  · exact h.give_K hI hm hin hj hjk hu hT h4
theorem ZB.skip (h : ZB up k L T q) (hm : q.net = m :: l) (hin : ¬ inUp up m) : ZB up k L T (q.remove 0) := by
  have hn := remove_net hm
  have hrs : (q.remove 0).rs = q.rs := rfl
  have hnn : (q.remove 0).n = q.n := rfl
  have hsub : ∀ m', m' ∈ (q.remove 0).net → m' ∈ q.net := fun m' hm' => by rw [hn] at hm'; rw [hm]; simp [hm']
  have hno : ∀ i, bitU up i → ¬ (m.from_ = i ∧ m.to_ = k) ∧ ¬ (m.from_ = k ∧ m.to_ = i) := by
    intro i hUi
    refine ⟨fun ⟨f1, f2⟩ => hin ?_, fun ⟨f1, f2⟩ => hin ?_⟩
    · unfold inUp
      rw [f1, f2, Int.toNat_natCast, Int.toNat_natCast]
      rintro (q1 | q1)
      · exact hUi q1
      · exact h.za.ku q1
    · unfold inUp
      rw [f1, f2, Int.toNat_natCast, Int.toNat_natCast]
      rintro (q1 | q1)
      · exact h.za.ku q1
      · exact hUi q1
  obtain ⟨j, hj, hjk, hc⟩ := h.za.msg m (by rw [hm]; simp)
  have hends : (m.from_ = k ∧ m.to_ = j ∧ (m.kind = 1 ∨ m.kind = 3)) ∨ (m.from_ = j ∧ m.to_ = k ∧ (m.kind = 2 ∨ m.kind = 4)) := by
    rcases hc with ⟨hF, -⟩ | ⟨-, hT, -⟩
    · have := hF.ends; exact .inl ⟨this.1, this.2.1, this.2.2.1⟩
    · have := hT.ends; exact .inr ⟨this.1, this.2.1, this.2.2.1⟩
  have hold : ∀ m', m' ∈ q.net → m' ≠ m → m' ∈ (q.remove 0).net := by
    intro m' hm' hne
    rw [hm] at hm'
    rcases List.mem_cons.1 hm' with e | hm'
    · exact absurd e hne
    · rw [hn]; exact hm'
  refine ⟨(h.za.skip hm hin).1, h.tk, h.t1, h.rk, h.cand, h.oth, fun m' hm' => h.mt m' (hsub m' hm'), fun m' hm' => h.mv m' (hsub m' hm'), fun m' hm' => h.ms m' (hsub m' hm'), fun i hi hik hUi => ?_, fun hr i hi hik hUi => ?_, h.co⟩
  · rcases h.vt i hi hik hUi with a | a | ⟨m', a1, a2⟩
    · exact .inl a
    · exact .inr (.inl a)
    · refine .inr (.inr ⟨m', hold m' a1 ?_, a2⟩)
      rintro rfl
      have := hno i hUi
      omega
  · rcases h.ac hr i hi hik hUi with a | ⟨m', a1, a2⟩
    · exact .inl a
    · refine .inr ⟨m', hold m' a1 ?_, a2⟩
      rintro rfl
      have := hno i hUi
      omega
theorem ZB.flush {q' : Qs} {c c' : Nat} (hf : Flushes up q c q' c') : ∀ {g : Gh}, QInv q g → ZB up k L T q → MajU up q.n → c + weight k q ≤ 5000 → ZB up k L T q' ∧ q'.net = [] := by
  induction hf with
  | stop q c h0 =>
    intro g hI h hU hw
    refine ⟨h, ?_⟩
    rcases h0 with h0 | h0
    · exact h0
    · have := wts_len (q.rs k) q.net
      unfold weight at hw
      exact List.eq_nil_of_length_eq_zero (by omega)
  | skip q c m l q' c' hk hm h0 hn ih =>
    intro g hI h hU hw
    obtain ⟨h1, h2⟩ := h.za.skip hm h0
    exact ih (g := g) ⟨hI.ok.remove 0, hI.inv, fun m hm => hI.msgs m (List.mem_of_mem_eraseIdx hm), hI.done, hI.most⟩ (h.skip hm h0) hU (by omega)
  | give q c m l q' c' hk hm h0 hn ih =>
    intro g hI h hU hw
    have hmem : m ∈ q.net := by rw [hm]; simp
    obtain ⟨g1, g2, g3⟩ := (hI.pre.remove 0).give (hI.ok.msgs m hmem) (hI.msgs m hmem)
    obtain ⟨h1, h2⟩ := h.za.give hI hm h0
    exact ih (g2.note).1 (h.give hI hU hm h0) hU (by omega)
/-- When no message is left. -/
theorem ZB.done (h : ZB up k L T q) (hnet : q.net = []) (hU : MajU up q.n) : (q.rs k).role = 3 ∧ ∀ j, j < q.n → j ≠ k → bitU up j → (q.rs k).mtch j = L.length ∧ (q.rs k).next j = L.length ∧ (q.rs j).js.log = L ∧ (q.rs j).js.term = T := by
  have hr : (q.rs k).role = 3 := by
    rcases h.rk with hr | hr
    · exfalso
      obtain ⟨c1, c2⟩ := h.cand hr
      rw [cntV_cnt] at c1
      have hmono : cntB (fun i => decide (bitU up i)) q.n ≤ cntB (fun i => (q.rs k).votes.testBit i) q.n := by
        refine cntB_mono fun i hi hb => ?_
        have hb : bitU up i := by simpa using hb
        by_cases e : i = k
        · rw [e]; exact c2
        · rcases h.vt i hi e hb with a | a | ⟨m', a1, -⟩
          · omega
          · exact a
          · rw [hnet] at a1; cases a1
      have hU' : q.n < 2 * cntB (fun i => decide (bitU up i)) q.n := hU
      omega
    · exact hr
  refine ⟨hr, fun j hj hjk hUj => ?_⟩
  rcases h.ac hr j hj hjk hUj with a | ⟨m', a1, -⟩
  · exact a
  · rw [hnet] at a1; cases a1
end
end Go.Proofs.Ytokblidfekbeeaa
/- The plain law of a quorum: two campaigns of the best replica of a majority, each flushed, and a proposal, flushed. -/
namespace Go.Proofs.Ytokblidfekbeeaa
set_option linter.unusedVariables false

theorem wts_apps {r r' : Rs} {c : Nat} (h : ∀ dst, r'.next dst ≤ c) : ∀ l : List Nat, wts r (l.map r'.app) ≤ l.length * (2 * c + 4) := by
  intro l
  induction l with
  | nil => simp [wts]
  | cons d l ih =>
    have h1 : wt r (r'.app d) ≤ 2 * c + 4 := by
      unfold wt
      rw [if_neg (by simp [Rs.app]), if_pos (by simp [Rs.app])]
      simp only [Rs.app, Int.toNat_natCast]
      have := h d
      omega
    simp only [List.map_cons, wts, List.length_cons]
    rw [Nat.add_mul, Nat.one_mul]
    omega
section
variable {up : Int} {k : Nat} {L : List Lg} {T : Int} {q : Qs} {g : Gh} {m : Ms} {l : List Ms}
theorem ZB.start (hI : QInv q g) (hk : k < q.n) (hu : bitU up k) (hnet : q.net = []) (hbet : ∀ j, j < q.n → bitU up j → Better (q.rs k).js.log (q.rs j).js.log) (htm : ∀ j, j < q.n → j ≠ k → bitU up j → (q.rs j).js.term ≤ (q.rs k).js.term) (hterm : (q.rs k).js.term < 1073741824) (hlen : (q.rs k).js.log.length ≤ 200) (num : Int) (e : En) :
    ZB up k (q.rs k).js.log ((q.rs k).js.term + 1) (q.act 1 (k : Int) num e) ∧ 0 + weight k (q.act 1 (k : Int) num e) ≤ 5000 := by
  obtain ⟨hza, hw⟩ := ZA.start hI hk hu hnet hbet hterm hlen num e
  refine ⟨?_, hw⟩
  rw [act_campaign hk] at hza ⊢
  obtain ⟨o1, o2, o3⟩ := hI.ok.each k hk
  have hlo := o1.lo
  have hn5 := hI.ok.five
  have hpos := hI.ok.pos
  have hbd := o1.log.termAt_bd o1.lo ((((q.rs k).js.log.length : Nat) : Int) - 1)
  have hq1 : ((q.put k (q.rs k).campaign).note).rs = upd q.rs k (q.rs k).campaign.1 := rfl
  have hq2 : ((q.put k (q.rs k).campaign).note).net = sendAll q.net (q.rs k).campaign.2 := rfl
  have hq3 : ((q.put k (q.rs k).campaign).note).n = q.n := rfl
  rw [hnet] at hq2
  generalize (q.put k (q.rs k).campaign).note = q' at *
  have hk' : q'.rs k = (q.rs k).campaign.1 := by rw [hq1, upd_self]
  have hot : ∀ i, i ≠ k → q'.rs i = q.rs i := fun i hi => by rw [hq1, upd_ne hi]
  unfold Rs.campaign at hk' hq2
  rw [if_neg (by omega)] at hk' hq2
  have hoth : ∀ j, j < q'.n → j ≠ k → bitU up j → (q'.rs j).js.term ≤ (q.rs k).js.term + 1 ∧ ((q'.rs j).js.term = (q.rs k).js.term + 1 → (q'.rs j).role = 1 ∧ ((q'.rs j).js.vote = -1 ∨ (q'.rs j).js.vote = k)) := by
    intro j hj hjk hUj
    rw [hot j hjk]
    have := htm j (by omega) hjk hUj
    exact ⟨by omega, fun hh => by omega⟩
  by_cases h1 : (q.rs k).n = 1
  · rw [if_pos h1] at hk' hq2
    have hq2' : q'.net = [] := hq2
    refine ⟨hza, by rw [hk']; rfl, by omega, by rw [hk']; exact .inr rfl, fun hh => by rw [hk'] at hh; simp [Rs.lead] at hh, hoth, ?_, ?_, ?_, fun i hi hik => by omega, fun _ i hi hik => by omega, fun _ hh => by omega⟩
    · intro m hm; rw [hq2'] at hm; cases hm
    · intro m hm; rw [hq2'] at hm; cases hm
    · intro m hm; rw [hq2'] at hm; cases hm
  · rw [if_neg h1] at hk' hq2
    have hol := others_le (q.rs k).id (q.rs k).n
    rw [sendAll_app _ _ (by simp only [List.length_nil, List.length_map]; omega), List.nil_append] at hq2
    have hcv := (cntV_pow k q.n).1
    refine ⟨hza, by rw [hk'], by omega, by rw [hk']; exact .inl rfl, fun _ => ?_, hoth, fun m hm => ?_, fun m hm hh => ?_, fun m hm hh => ?_, fun i hi hik hUi => .inr (.inr ?_), fun hh => by rw [hk'] at hh; simp at hh, fun hh => by rw [hk'] at hh; simp at hh⟩
    · rw [hk']
      simp only
      rw [o2, hq3]
      refine ⟨by omega, ?_⟩
      rw [testBit_pow]; simp
    · rw [hq2] at hm
      obtain ⟨d, -, rfl⟩ := List.mem_map.1 hm
      rfl
    · rw [hq2] at hm
      obtain ⟨d, -, rfl⟩ := List.mem_map.1 hm
      simp [Rs.vote] at hh
    · rw [hq2] at hm
      obtain ⟨d, -, rfl⟩ := List.mem_map.1 hm
      simp [Rs.vote] at hh
    · exact ⟨_, by rw [hq2]; exact List.mem_map.2 ⟨i, others_mem.2 ⟨by omega, by omega⟩, rfl⟩, .inr ⟨rfl, rfl⟩⟩
theorem act_propose (hk : k < q.n) (num : Int) {e : En} (hx : (q.rs k).propX e = 0) : q.actX 2 (k : Int) num e = 0 ∧ q.act 2 (k : Int) num e = (q.put k ((q.rs k).propose e)).note := by
  have hp : q.permits 2 (k : Int) num = true := by unfold Qs.permits; rw [if_pos (.inr (.inl rfl))]; simp; omega
  have hx2 : q.actX 2 (k : Int) num e = 0 := by unfold Qs.actX; rw [if_neg (by rw [hp]; simp), if_pos rfl, Int.toNat_natCast]; exact hx
  refine ⟨hx2, ?_⟩
  unfold Qs.act
  rw [if_neg (by rw [hx2]; simp), if_neg (by omega), if_pos rfl, Int.toNat_natCast]
theorem lastT_snoc (l : List Lg) (x : Lg) : termAt (l ++ [x]) (((l ++ [x]).length : Int) - 1) = x.term := by
  rw [show (((l ++ [x]).length : Int) - 1) = ((l.length : Nat) : Int) from by simp]
  exact termAt_at (by rw [List.getElem?_append_right (Nat.le_refl _)]; simp)
theorem ZB.prop (hI : QInv q g) (h : ZB up k L T q) (hU : MajU up q.n) (hnet : q.net = []) (hlen : L.length ≤ 200) (num : Int) {e : En} (he : e.ok) (hsh : shapeB e = true) :
    q.actX 2 (k : Int) num e = 0 ∧ ZB up k (L ++ [⟨T, e⟩]) T (q.act 2 (k : Int) num e) ∧ 0 + weight k (q.act 2 (k : Int) num e) ≤ 5000 := by
  obtain ⟨hr3, hall⟩ := h.done hnet hU
  have hkn := h.za.kn
  obtain ⟨o1, o2, o3⟩ := hI.ok.each k hkn
  have hn5 := hI.ok.five
  have hlog := h.za.log
  have htk := h.tk
  have ht1 := h.t1
  have hlT : lastT L ≤ T := by have := (o1.log.termAt_bd o1.lo (((q.rs k).js.log.length : Int) - 1)).2; rw [htk, hlog] at this; exact this
  have hhi := o1.hi
  have hax : addX (q.rs k).js (q.rs k).js.term e = 0 := addX_zero (by omega) (by omega) hsh (Int.le_refl _) (by rw [hlog]; omega) (by rw [hlog]; omega)
  have hpx : (q.rs k).propX e = 0 := by unfold Rs.propX; rw [if_neg (by omega)]; exact hax
  obtain ⟨hx, hact⟩ := act_propose hkn num hpx
  refine ⟨hx, ?_⟩
  rw [hact]
  have hokp := o1.proposed e he
  have hprop : (q.rs k).propose e = ((q.rs k).proposed e, ((q.rs k).proposed e).toAll) := by unfold Rs.propose; rw [if_pos hpx]
  rw [hprop]
  have hjs : ((q.rs k).proposed e).js = ⟨T, (q.rs k).js.vote, L ++ [⟨T, e⟩]⟩ := by
    show addS (q.rs k).js (q.rs k).js.term e = _
    rw [addS_yes hax, htk, hlog]
  have hpid : ((q.rs k).proposed e).id = k := o2
  have hpn : ((q.rs k).proposed e).n = q.n := o3
  have hpr : ((q.rs k).proposed e).role = 3 := hr3
  have hnx : ∀ d, ((q.rs k).proposed e).next d ≤ L.length := fun d => by have := o1.nxt hr3 d; rw [hlog] at this; exact this
  have hco : termAt (L ++ [(⟨T, e⟩ : Lg)]) (((L ++ [(⟨T, e⟩ : Lg)]).length : Int) - 1) = T → q.n < 2 * ((q.rs k).proposed e).stores (L ++ [(⟨T, e⟩ : Lg)]).length q.n → (L ++ [(⟨T, e⟩ : Lg)]).length ≤ ((q.rs k).proposed e).commit := by
    intro c1 c2
    have hA : ({ q.rs k with js := addS (q.rs k).js (q.rs k).js.term e } : Rs).js = ⟨T, (q.rs k).js.vote, L ++ [⟨T, e⟩]⟩ := by
      show addS (q.rs k).js (q.rs k).js.term e = _
      rw [addS_yes hax, htk, hlog]
    exact adv_key ({ q.rs k with js := addS (q.rs k).js (q.rs k).js.term e } : Rs) (by rw [hA]) o3 (by rw [hA]; exact c1) c2
  generalize (q.rs k).proposed e = r at *
  have hq1 : ((q.put k (r, r.toAll)).note).rs = upd q.rs k r := rfl
  have hq2 : ((q.put k (r, r.toAll)).note).net = sendAll q.net r.toAll := rfl
  have hq3 : ((q.put k (r, r.toAll)).note).n = q.n := rfl
  generalize (q.put k (r, r.toAll)).note = q' at *
  have hk' : q'.rs k = r := by rw [hq1, upd_self]
  have hot : ∀ i, i ≠ k → q'.rs i = q.rs i := fun i hi => by rw [hq1, upd_ne hi]
  have hol := others_le r.id r.n
  rw [hnet, sendAll_app _ _ (by simp only [List.length_nil, Rs.toAll, List.length_map]; omega), List.nil_append] at hq2
  have hmem : ∀ m', m' ∈ q'.net → ∃ d, d < q.n ∧ d ≠ k ∧ m' = r.app d := by
    intro m' hm'
    rw [hq2] at hm'
    obtain ⟨d, hd, rfl⟩ := List.mem_map.1 hm'
    obtain ⟨d1, d2⟩ := others_mem.1 hd
    exact ⟨d, by omega, by omega, rfl⟩
  have hza : ZA up k (L ++ [⟨T, e⟩]) q' := by
    refine ⟨by omega, h.za.ku, by rw [hk', hjs], fun i hi hUi => ?_, fun m' hm' => ?_, ?_, fun i hi hik hUi => .inl ?_⟩
    · by_cases ei : i = k
      · rw [ei, hk', hjs]; exact Better.refl _
      · rw [hot i ei, (hall i (by omega) ei hUi).2.2.1]
        have hl2 : lastT (L ++ [(⟨T, e⟩ : Lg)]) = T := lastT_snoc L ⟨T, e⟩
        rcases Int.lt_or_eq_of_le hlT with c | c
        · exact .inl (by rw [hl2]; exact c)
        · exact .inr ⟨by rw [hl2, c], by simp⟩
    · obtain ⟨d, d1, d2, rfl⟩ := hmem m' hm'
      have ht : (r.app d).term = r.js.term := rfl
      refine ⟨d, by omega, d2, .inl ⟨⟨r, hokp, by rw [hjs], hpid, by omega, by rw [hjs]; exact ht1, rfl, .inr ⟨hpr, rfl⟩⟩, by rw [hk', ht]; exact Int.le_refl _, fun _ => ⟨by rw [hk']; omega, fun _ => by rw [hk', ht]⟩⟩⟩
    · rw [hq2, hk', if_neg (by omega)]
      simp only [Rs.toAll, List.length_map]
      omega
    · rw [hot i hik, hk', (hall i (by omega) hik hUi).2.2.2, hjs]; exact Int.le_refl _
  refine ⟨⟨hza, by rw [hk', hjs], ht1, by rw [hk']; exact .inr hpr, fun hh => by rw [hk'] at hh; omega, fun i hi hik hUi => ?_, fun m' hm' => ?_, fun m' hm' hh => ?_, fun m' hm' hh => ?_, fun i hi hik hUi => .inl (by rw [hk']; exact hpr), fun hh i hi hik hUi => .inr ?_, fun _ => by rw [hk', hq3]; exact hco⟩, ?_⟩
  · rw [hot i hik]; exact h.oth i (by omega) hik hUi
  · obtain ⟨d, -, -, rfl⟩ := hmem m' hm'
    show r.js.term = T
    rw [hjs]
  · obtain ⟨d, -, -, rfl⟩ := hmem m' hm'
    simp [Rs.app] at hh
  · obtain ⟨d, -, -, rfl⟩ := hmem m' hm'
    simp [Rs.app] at hh
  · exact ⟨r.app i, by rw [hq2]; exact List.mem_map.2 ⟨i, others_mem.2 ⟨by omega, by omega⟩, rfl⟩, .inl ⟨rfl, rfl⟩⟩
  · unfold weight
    rw [hq2, hk']
    have hw := wts_apps (r := r) hnx (others r.id r.n)
    have e1 : Go.Proofs.Ytokblidfekbeeaa.cand r = 0 := by unfold Go.Proofs.Ytokblidfekbeeaa.cand; rw [if_neg (by omega)]
    have hm2 : (others r.id r.n).length * (2 * L.length + 4) ≤ 5 * (2 * L.length + 4) := Nat.mul_le_mul_right _ (by omega)
    unfold Rs.toAll
    omega
/-- Two campaigns of the best replica of a majority that are flushed, and an entry that it proposes then. -/
theorem commits_plain {s : Nat} (hI : QInv q g) (hb : QBd q s) (hs : s ≤ 100) (hnet : q.net = []) (hk : k < q.n) (hu : bitU up k) (hbet : ∀ j, j < q.n → bitU up j → Better (q.rs k).js.log (q.rs j).js.log) (hU : MajU up q.n)
    {n1 n2 n3 : Int} {e1 e2 e : En} (he1 : e1.ok) (he2 : e2.ok) (he : e.ok) (hsh : shapeB e = true) {q1 q2 : Qs} {c1 c2 : Nat} (f1 : Flushes up (q.act 1 (k : Int) n1 e1) 0 q1 c1) (f2 : Flushes up (q1.act 1 (k : Int) n2 e2) 0 q2 c2) :
    (q2.rs k).role = 3 ∧ q2.actX 2 (k : Int) n3 e = 0 ∧ ∀ q3 c3, Flushes up (q2.act 2 (k : Int) n3 e) 0 q3 c3 → q2.done.length < q3.done.length ∧ q3.done.getLast? = some e := by
  have hn1 : ∀ (q : Qs) a b c d, (q.act a b c d).n = q.n := by
    intro q a b c d
    unfold Qs.act
    split
    · rfl
    · split
      · rfl
      · split
        · rfl
        · split
          · rfl
          · split
            · rfl
            · split
              · rfl
              · split <;> rfl
  have hn2 : ∀ {up : Int} {q q' : Qs} {c c' : Nat}, Flushes up q c q' c' → q'.n = q.n := by
    intro up q q' c c' hf
    induction hf with
    | stop => rfl
    | skip q c m l q' c' hk hm h0 hn ih => exact ih
    | give q c m l q' c' hk hm h0 hn ih => exact ih
  have hbt := (hb.each k hk).term
  have hbl := (hb.each k hk).len
  -- the first campaign
  obtain ⟨g1, hI1, -, -⟩ := hI.act 1 (k : Int) n1 e1 he1
  obtain ⟨hz1, hw1⟩ := ZA.start hI hk hu hnet hbet (by omega) (by omega) n1 e1
  obtain ⟨hz2, hnet2⟩ := hz1.flush f1 hI1 hw1
  obtain ⟨g2, hI2, -, -⟩ := QInv.flush f1 hI1
  obtain ⟨hb2, -⟩ := QBd.flush f1 (hb.act hI.ok 1 (k : Int) n1 e1 he1) hI1.ok
  have hqn : q1.n = q.n := (hn2 f1).trans (hn1 _ _ _ _ _)
  have hk1 : k < q1.n := by omega
  have hbt1 := (hb2.each k hk1).term
  have hlg := hz2.log
  have htm : ∀ j, j < q1.n → j ≠ k → bitU up j → (q1.rs j).js.term ≤ (q1.rs k).js.term := by
    intro j hj hjk hUj
    rcases hz2.tm j hj hjk hUj with a | ⟨m, a, -⟩ | ⟨m, a, -⟩
    · exact a
    · rw [hnet2] at a; cases a
    · rw [hnet2] at a; cases a
  -- the second one
  obtain ⟨g3, hI3, -, -⟩ := hI2.act 1 (k : Int) n2 e2 he2
  obtain ⟨hz3, hw3⟩ := ZB.start hI2 hk1 hu hnet2 (by rw [hlg]; exact hz2.bet) htm (by omega) (by rw [hlg]; omega) n2 e2
  have hU3 : MajU up (q1.act 1 (k : Int) n2 e2).n := by rw [hn1, hqn]; exact hU
  obtain ⟨hz4, hnet4⟩ := hz3.flush f2 hI3 hU3 hw3
  obtain ⟨g4, hI4, -, -⟩ := QInv.flush f2 hI3
  have hqn2 : q2.n = q.n := (hn2 f2).trans ((hn1 _ _ _ _ _).trans hqn)
  have hU4 : MajU up q2.n := by rw [hqn2]; exact hU
  obtain ⟨hr4, hall⟩ := hz4.done hnet4 hU4
  rw [hlg] at hz4
  have hk4 : k < q2.n := by omega
  -- the proposal
  obtain ⟨hx, hz5, hw5⟩ := hz4.prop hI4 hU4 hnet4 (by omega) n3 he hsh
  refine ⟨hr4, hx, fun q3 c3 f3 => ?_⟩
  obtain ⟨g5, hI5, -, -⟩ := hI4.act 2 (k : Int) n3 e he
  have hU5 : MajU up (q2.act 2 (k : Int) n3 e).n := by rw [hn1, hqn2]; exact hU
  obtain ⟨hz6, hnet6⟩ := hz5.flush f3 hI5 hU5 hw5
  obtain ⟨g6, hI6, -, -⟩ := QInv.flush f3 hI5
  have hqn3 : q3.n = q.n := (hn2 f3).trans ((hn1 _ _ _ _ _).trans hqn2)
  have hU6 : MajU up q3.n := by rw [hqn3]; exact hU
  obtain ⟨hr6, hall6⟩ := hz6.done hnet6 hU6
  have hk6 : k < q3.n := by omega
  obtain ⟨l4, l4c, l4d⟩ := hI4.done
  have hp4 := hI4.inv.lead_has hk4 hr4 (hz4.maj hU4) l4c
  rw [hz4.za.log] at hp4
  obtain ⟨l6, l6c, l6d⟩ := hI6.done
  have hp6 := hI6.inv.lead_has hk6 hr6 (hz6.maj hU6) l6c
  rw [hz6.za.log] at hp6
  obtain ⟨o1, o2, o3⟩ := hI6.ok.each k hk6
  have hst : q3.n < 2 * (q3.rs k).stores ((q.rs k).js.log ++ [(⟨(q1.rs k).js.term + 1, e⟩ : Lg)]).length q3.n := by
    rw [stores_cnt, if_pos (by omega)]
    have hmono : cntB (fun i => decide (bitU up i)) q3.n ≤ cntB (fun i => i == (q3.rs k).id || decide (((q.rs k).js.log ++ [(⟨(q1.rs k).js.term + 1, e⟩ : Lg)]).length ≤ (q3.rs k).mtch i)) q3.n := by
      refine cntB_mono fun i hi hb => ?_
      have hb : bitU up i := by simpa using hb
      by_cases ei : i = k
      · simp [ei, o2]
      · have := (hall6 i hi ei hb).1
        simp only [Bool.or_eq_true, decide_eq_true_eq]
        exact .inr (by omega)
    have hU6' : q3.n < 2 * cntB (fun i => decide (bitU up i)) q3.n := hU6
    omega
  have hco := hz6.co hr6 (lastT_snoc _ _) hst
  have hmost := hI6.most k hk6
  have hle6 := hp6.length_le
  have hle4 := hp4.length_le
  rw [l4d, l6d]
  rw [l6d, List.length_map] at hmost
  rw [List.length_map, List.length_map]
  rw [List.length_append, List.length_singleton] at hco hle6
  have heq : l6 = (q.rs k).js.log ++ [(⟨(q1.rs k).js.term + 1, e⟩ : Lg)] := hp6.eq_of_length (by rw [List.length_append, List.length_singleton]; omega)
  refine ⟨by omega, ?_⟩
  rw [heq]
  simp
end
end Go.Proofs.Ytokblidfekbeeaa
/- Journals whose bytes are the records of what they remember: the calls, without the bytes. -/
namespace Go.Proofs.Ytokblidfekbeeaa
open Go.ChangeShapes Go.WideShapes Go.ChangeAt Go.RowKit
set_option linter.unusedVariables false

/-- The journal j remembers s, and its disk has the records of it, in n bytes at most; y: all of it is synced. -/
def JG (y : Bool) (w : World) (F : Nat → Prop) (j : Nat) (s : Js) (n : Nat) : Prop :=
  ∃ d xs k rs, JAt w F j d xs k s ∧ Good xs s rs ∧ s.log.length ≤ 4096 ∧ xs.length ≤ n ∧ (y = true → k = xs.length)
def JGTo (y : Bool) (w : World) (F : Nat → Prop) (j : Nat) (s : Js) (n : Nat) (w' : World) : Prop :=
  ∃ F', JG y w' F' j s n ∧ (∀ i, F' i → F i ∨ w.heap.size ≤ i) ∧ Fr F w w'

section
variable {y : Bool} {w w' w1 : World} {F G : Nat → Prop} {j : Nat} {s s' : Js} {n m : Nat}
theorem JG.fr (h : JG y w F j s n) (hf : Fr G w w') (hd : ∀ i, F i → ¬ G i) : JG y w' F j s n := by
  obtain ⟨d, xs, k, rs, h1, h2⟩ := h
  exact ⟨d, xs, k, rs, h1.fr hf hd, h2⟩
theorem JG.frNo (h : JG y w F j s n) (hf : Fr No w w') : JG y w' F j s n := h.fr hf fun _ _ hi => hi
theorem JG.lt (h : JG y w F j s n) : ∀ i, F i → i < w.heap.size := by
  obtain ⟨d, xs, k, rs, h1, h2⟩ := h
  exact h1.lt
theorem JG.more (h : JG y w F j s n) (hn : n ≤ m) : JG y w F j s m := by
  obtain ⟨d, xs, k, rs, h1, h2, h3, h4, h5⟩ := h
  exact ⟨d, xs, k, rs, h1, h2, h3, Nat.le_trans h4 hn, h5⟩
theorem JG.few (h : JG y w F j s n) : s.log.length ≤ 4096 := by
  obtain ⟨d, xs, k, rs, h1, h2, h3, h4, h5⟩ := h
  exact h3
theorem JG.weak (h : JG y w F j s n) : JG false w F j s n := by
  obtain ⟨d, xs, k, rs, h1, h2, h3, h4, h5⟩ := h
  exact ⟨d, xs, k, rs, h1, h2, h3, h4, fun h => by cases h⟩
theorem JG.self (h : JG y w F j s n) : JGTo y w F j s n w := ⟨F, h, fun _ hi => .inl hi, Fr.refl _ _⟩
theorem JG.still (h : JG y w F j s n) (hf : Fr No w w') : JGTo y w F j s n w' := ⟨F, h.frNo hf, fun _ hi => .inl hi, hf.mono fun _ hi => hi.elim⟩
theorem JGTo.trans {y' : Bool} (h : JGTo y w F j s n w1) (h2 : ∀ F', JG y w1 F' j s n → JGTo y' w1 F' j s' m w') : JGTo y' w F j s' m w' := by
  obtain ⟨F1, h3, h4, h5⟩ := h
  obtain ⟨F2, g3, g4, g5⟩ := h2 F1 h3
  refine ⟨F2, g3, fun i hi => ?_, h5.trans g5 h4⟩
  rcases g4 i hi with h | h
  · exact h4 i h
  · exact .inr (Nat.le_trans h5.size h)
theorem JGTo.own {w0 : World} (h : JGTo y w1 F j s n w') (hf : Fr No w0 w1) (hN : ∀ i, F i → w0.heap.size ≤ i) : ∃ F', JG y w' F' j s n ∧ (∀ i, F' i → w0.heap.size ≤ i) ∧ Fr No w0 w' := by
  obtain ⟨F', g1, g2, g3⟩ := h
  exact ⟨F', g1, fun i hi => (g2 i hi).elim (fun h => hN i h) (fun h => Nat.le_trans hf.size h), hf.transNew g3 hN⟩
theorem JGTo.of {d : Nat} {xs : List UInt8} {k : Nat} {rs : List (List UInt8)} (h : JTo w F j d xs k s w') (hg : Good xs s rs) (hl : s.log.length ≤ 4096) (hn : xs.length ≤ n) (hy : y = true → k = xs.length) : JGTo y w F j s n w' := by
  obtain ⟨F', g1, g2, g3⟩ := h
  exact ⟨F', ⟨d, xs, k, rs, g1, hg, hl, hn, hy⟩, g2, g3⟩

theorem setTermS_log (s : Js) (t v : Int) : (setTermS s t v).log = s.log := by unfold setTermS; split <;> rfl
theorem recT_len {t v : Int} (h : setTermX s t v = 0) : (recT t v).length ≤ 30 := by
  have hb := setX_bd h
  have := intsF_len [1, t, v] (by
    intro x hx
    simp only [List.mem_cons, List.not_mem_nil, or_false] at hx
    rcases hx with rfl | rfl | rfl <;> omega)
  simpa [recT] using this
theorem recE_len {t : Int} {e : En} (he : e.ok) (h : addX s t e = 0) : (recE t e).length ≤ 110 := by
  have hb := addX_bd h
  have l2 := intsF_len [2, t] (by
    intro x hx
    simp only [List.mem_cons, List.not_mem_nil, or_false] at hx
    rcases hx with rfl | rfl <;> omega)
  have l3 := enB_len e he
  unfold recE
  rw [List.length_append]
  simp at l2
  omega
theorem recC_len {c : Int} (hl : s.log.length ≤ 4096) (h : cutX s c = 0) : (recC c).length ≤ 20 := by
  have hb := cutX_bd h
  have l2 := intsF_len [3, c] (by
    intro x hx
    simp only [List.mem_cons, List.not_mem_nil, or_false] at hx
    rcases hx with rfl | rfl <;> omega)
  simpa [recC] using l2
end

section
variable {y : Bool} {w w' w1 : World} {F G : Nat → Prop} {j : Nat} {s : Js} {n : Nat}
theorem g_new (w : World) :
    Calls Try.prog 48 #[] w fun e w' => ∃ j F, e = .returned (.pointer (some ⟨j, 0, none⟩)) ∧ JG true w' F j jsNew 0 ∧ (∀ i, F i → w.heap.size ≤ i) ∧ Fr No w w' := by
  refine (j_new w).mono ?_
  rintro e w' ⟨j, d, F, h1, h2, h3, h4⟩
  exact ⟨j, F, h1, ⟨d, [], 0, [], h2, Good.new, by decide, Nat.le_refl _, fun _ => rfl⟩, h3, h4⟩
theorem g_term (h : JG y w F j s n) : Calls Try.prog 52 #[.pointer (some ⟨j, 0, none⟩)] w fun e w' => e = .returned (.int .i64 s.term) ∧ w = w' := by
  obtain ⟨d, xs, k, rs, h1, h2⟩ := h
  exact j_term h1
theorem g_vote (h : JG y w F j s n) : Calls Try.prog 96 #[.pointer (some ⟨j, 0, none⟩)] w fun e w' => e = .returned (.int .i64 s.vote) ∧ w = w' := by
  obtain ⟨d, xs, k, rs, h1, h2⟩ := h
  exact j_vote h1
theorem g_len (h : JG y w F j s n) : Calls Try.prog 82 #[.pointer (some ⟨j, 0, none⟩)] w fun e w' => e = .returned (.int .i64 (s.log.length : Int)) ∧ w = w' := by
  obtain ⟨d, xs, k, rs, h1, h2⟩ := h
  exact j_len h1
theorem g_at (h : JG y w F j s n) (i : Int) : Calls Try.prog 93 #[.pointer (some ⟨j, 0, none⟩), .int .i64 i] w fun e w' => e = .returned (.tuple #[(atJ s.log i).1.v, .bool (atJ s.log i).2]) ∧ Fr No w w' := by
  obtain ⟨d, xs, k, rs, h1, h2⟩ := h
  exact j_at h1 i
theorem g_termAt (h : JG y w F j s n) (i : Int) : Calls Try.prog 80 #[.pointer (some ⟨j, 0, none⟩), .int .i64 i] w fun e w' => e = .returned (.int .i64 (termAt s.log i)) ∧ Fr No w w' := by
  obtain ⟨d, xs, k, rs, h1, h2⟩ := h
  exact j_termAt h1 i
theorem g_SetTerm (h : JG y w F j s n) (t v : Int) (hsz : n + 200 ≤ 140737488355328) :
    Calls Try.prog 77 #[.pointer (some ⟨j, 0, none⟩), .int .i64 t, .int .i64 v] w fun e w' => e = .returned (.int .i64 (setTermX s t v)) ∧ JGTo false w F j (setTermS s t v) (n + 48) w' := by
  obtain ⟨d, xs, k, rs, h1, h2, h3, h4, h5⟩ := h
  refine (j_SetTerm h1 t v (by omega)).mono ?_
  rintro e w' ⟨rfl, j2⟩
  refine ⟨rfl, ?_⟩
  by_cases h0 : setTermX s t v = 0
  · rw [if_pos h0] at j2
    have hr := recT_len h0
    have hp := putN_lenP 8 (recT t v) (by omega)
    exact JGTo.of j2 (h2.snoc (recT t v) (by omega) (replay_term s t v h0)) (by rw [setTermS_log]; exact h3) (by rw [List.length_append]; omega) (fun h => by cases h)
  · rw [if_neg h0, setTermS_no h0] at j2
    rw [setTermS_no h0]
    exact JGTo.of j2 h2 h3 (by omega) (fun h => by cases h)
theorem g_Append (h : JG y w F j s n) (t : Int) (e : En) (he : e.ok) (hsz : n + 200 ≤ 140737488355328) :
    Calls Try.prog 66 #[.pointer (some ⟨j, 0, none⟩), .int .i64 t, e.v] w fun r w' => r = .returned (.int .i64 (addX s t e)) ∧ JGTo false w F j (addS s t e) (n + 128) w' := by
  obtain ⟨d, xs, k, rs, h1, h2, h3, h4, h5⟩ := h
  refine (j_Append h1 h3 t e he (by omega)).mono ?_
  rintro r w' ⟨rfl, j2⟩
  refine ⟨rfl, ?_⟩
  by_cases h0 : addX s t e = 0
  · rw [if_pos h0] at j2
    have hr := recE_len he h0
    have hp := putN_lenP 8 (recE t e) (by omega)
    have hb := addX_bd h0
    exact JGTo.of j2 (h2.snoc (recE t e) (by omega) (replay_entry s t e he h0)) (by unfold addS; rw [if_pos h0]; simp only [List.length_append, List.length_singleton]; omega) (by rw [List.length_append]; omega) (fun h => by cases h)
  · rw [if_neg h0, addS_no h0] at j2
    rw [addS_no h0]
    exact JGTo.of j2 h2 h3 (by omega) (fun h => by cases h)
theorem g_Cut (h : JG y w F j s n) (c : Int) (hsz : n + 200 ≤ 140737488355328) :
    Calls Try.prog 97 #[.pointer (some ⟨j, 0, none⟩), .int .i64 c] w fun r w' => r = .returned (.int .i64 (cutX s c)) ∧ JGTo false w F j (cutS s c) (n + 38) w' := by
  obtain ⟨d, xs, k, rs, h1, h2, h3, h4, h5⟩ := h
  refine (j_Cut h1 c h3 (by omega)).mono ?_
  rintro r w' ⟨rfl, j2⟩
  refine ⟨rfl, ?_⟩
  by_cases h0 : cutX s c = 0
  · rw [if_pos h0] at j2
    have hr := recC_len h3 h0
    have hp := putN_lenP 8 (recC c) (by omega)
    exact JGTo.of j2 (h2.snoc (recC c) (by omega) (replay_cut s c h3 h0)) (by unfold cutS; rw [if_pos h0]; simp only [List.length_take]; omega) (by rw [List.length_append]; omega) (fun h => by cases h)
  · rw [if_neg h0, cutS_no h0] at j2
    rw [cutS_no h0]
    exact JGTo.of j2 h2 h3 (by omega) (fun h => by cases h)
theorem g_sync (h : JG y w F j s n) :
    Calls Try.prog 67 #[.pointer (some ⟨j, 0, none⟩)] w fun e w' => e = .returned (.tuple #[]) ∧ JGTo true w F j s n w' := by
  obtain ⟨d, xs, k, rs, h1, h2, h3, h4, h5⟩ := h
  refine (j_sync h1).mono ?_
  rintro r w' ⟨rfl, j2⟩
  exact ⟨rfl, JGTo.of j2 h2 h3 h4 (fun _ => rfl)⟩
/-- A journal that is synced is after a crash what it was. -/
theorem g_crash (h : JG true w F j s n) (keep : Int) :
    Calls Try.prog 70 #[.pointer (some ⟨j, 0, none⟩), .int .i64 keep] w fun e w' => e = .returned (.tuple #[]) ∧ JGTo true w F j s n w' := by
  obtain ⟨d, xs, k, rs, h1, h2, h3, h4, h5⟩ := h
  have hc : crashN xs.length k keep = xs.length := by rw [h5 rfl]; unfold crashN; omega
  refine (j_crash h1 keep).mono ?_
  rintro r w' ⟨rfl, j2⟩
  rw [hc, List.take_length, h2.play] at j2
  simp only [List.take_length, Nat.min_self] at j2
  exact ⟨rfl, JGTo.of j2 h2 h3 h4 (fun _ => rfl)⟩
/-- A crash of any journal leaves one. -/
theorem g_crash_any (h : JG y w F j s n) (keep : Int) :
    Calls Try.prog 70 #[.pointer (some ⟨j, 0, none⟩), .int .i64 keep] w fun e w' => e = .returned (.tuple #[]) ∧ ∃ s', JGTo true w F j s' n w' := by
  obtain ⟨d, xs, k, rs, h1, h2, h3, h4, h5⟩ := h
  have hk : k ≤ xs.length := by
    obtain ⟨_, _, _, _, _, _, h4, _⟩ := h1.open_
    obtain ⟨_, _, _, _, h9, _⟩ := h4
    exact h9
  have hc : crashN xs.length k keep ≤ xs.length := by unfold crashN; omega
  obtain ⟨i, s', g1, g2, g3, g4, g5, -⟩ := h2.crash _ hc
  refine (j_crash h1 keep).mono ?_
  rintro r w' ⟨rfl, j2⟩
  rw [g3] at j2
  have hl : ∀ (rs : List (List UInt8)) (a b : Js), foldJ a rs = some b → a.log.length ≤ 4096 → b.log.length ≤ 4096 := by
    intro rs
    induction rs with
    | nil => intro a b h hl; simp only [foldJ, Option.some.injEq] at h; subst h; exact hl
    | cons r rs ih =>
      intro a b h hl
      simp only [foldJ] at h
      cases hq : replayJ a r with
      | none => rw [hq] at h; cases h
      | some a1 =>
        rw [hq] at h
        exact ih a1 b h (replayJ_len hq hl)
  refine ⟨rfl, s', JGTo.of j2 g4 (hl _ _ _ g2 (by decide)) (by rw [List.length_take, List.length_take]; omega) fun _ => ?_⟩
  simp only [List.length_take]
  omega
end
end Go.Proofs.Ytokblidfekbeeaa
/- The program's replica and its messages in memory. -/
namespace Go.Proofs.Ytokblidfekbeeaa
open Go.ChangeShapes Go.WideShapes Go.ChangeAt Go.RowKit
set_option linter.unusedVariables false

abbrev TRep : TypeId := 87
abbrev TMs : TypeId := 76
/-- The cells of a replica. -/
abbrev repCells (j : Nat) (r : Rs) (bits : Int) (nx mt : Nat → Int) : Array Value :=
  #[.pointer (some ⟨j, 0, none⟩), .int .i64 r.id, .int .i64 r.n, .int .i64 r.role, .int .i64 r.commit, .int .i64 bits, .int .i64 (nx 0), .int .i64 (nx 1), .int .i64 (nx 2), .int .i64 (nx 3), .int .i64 (nx 4), .int .i64 (mt 0), .int .i64 (mt 1), .int .i64 (mt 2), .int .i64 (mt 3), .int .i64 (mt 4)]
/-- What the cells say of the votes and of the others. -/
def Sees (r : Rs) (bits : Int) (nx mt : Nat → Int) : Prop := (r.role = 2 → bits = r.votes) ∧ (r.role = 3 → ∀ i, i < r.n → nx i = r.next i ∧ mt i = r.mtch i)
/-- The replica p is r; its journal has n bytes at most; it lies in blocks of F. -/
def RAt (w : World) (F : Nat → Prop) (p : Nat) (r : Rs) (n : Nat) : Prop :=
  ∃ j Fj bits nx mt, Blk w p TRep (repCells j r bits nx mt) ∧ F p ∧ JG true w Fj j r.js n ∧ (∀ i, Fj i → F i) ∧ ¬ Fj p ∧ (∀ i, F i → i < w.heap.size) ∧ Sees r bits nx mt ∧ RsOk r
def RTo (w : World) (F : Nat → Prop) (p : Nat) (r : Rs) (n : Nat) (w' : World) : Prop :=
  ∃ F', RAt w' F' p r n ∧ (∀ i, F' i → F i ∨ w.heap.size ≤ i) ∧ Fr F w w'
section
variable {w w' w1 : World} {F G : Nat → Prop} {p : Nat} {r r' : Rs} {n m : Nat}
theorem RAt.fr (h : RAt w F p r n) (hf : Fr G w w') (hd : ∀ i, F i → ¬ G i) : RAt w' F p r n := by
  obtain ⟨j, Fj, bits, nx, mt, h1, h2, h3, h4, h5, h6, h7⟩ := h
  exact ⟨j, Fj, bits, nx, mt, h1.fr hf (hd p h2), h2, h3.fr hf fun i hi => hd i (h4 i hi), h4, h5, fun i hi => Nat.lt_of_lt_of_le (h6 i hi) hf.size, h7⟩
theorem RAt.frNo (h : RAt w F p r n) (hf : Fr No w w') : RAt w' F p r n := h.fr hf fun _ _ hi => hi
theorem RAt.lt (h : RAt w F p r n) : ∀ i, F i → i < w.heap.size := by
  obtain ⟨j, Fj, bits, nx, mt, h1, h2, h3, h4, h5, h6, h7⟩ := h
  exact h6
theorem RAt.ok (h : RAt w F p r n) : RsOk r := by
  obtain ⟨j, Fj, bits, nx, mt, h1, h2, h3, h4, h5, h6, h7, h8⟩ := h
  exact h8
theorem RAt.more (h : RAt w F p r n) (hn : n ≤ m) : RAt w F p r m := by
  obtain ⟨j, Fj, bits, nx, mt, h1, h2, h3, h4⟩ := h
  exact ⟨j, Fj, bits, nx, mt, h1, h2, h3.more hn, h4⟩
theorem RAt.self (h : RAt w F p r n) : RTo w F p r n w := ⟨F, h, fun _ hi => .inl hi, Fr.refl _ _⟩
theorem RAt.still (h : RAt w F p r n) (hf : Fr No w w') : RTo w F p r n w' := ⟨F, h.frNo hf, fun _ hi => .inl hi, hf.mono fun _ hi => hi.elim⟩
theorem RTo.trans (h : RTo w F p r n w1) (h2 : ∀ F', RAt w1 F' p r n → RTo w1 F' p r' m w') : RTo w F p r' m w' := by
  obtain ⟨F1, h3, h4, h5⟩ := h
  obtain ⟨F2, g3, g4, g5⟩ := h2 F1 h3
  refine ⟨F2, g3, fun i hi => ?_, h5.trans g5 h4⟩
  rcases g4 i hi with h | h
  · exact h4 i h
  · exact .inr (Nat.le_trans h5.size h)
theorem RTo.quiet (h : RTo w F p r n w1) (hf : Fr No w1 w') : RTo w F p r n w' := h.trans fun _ h => h.still hf
theorem RTo.after (hf : Fr No w w1) (h : RTo w1 F p r n w') : RTo w F p r n w' := by
  obtain ⟨F', h1, h2, h3⟩ := h
  exact ⟨F', h1, fun i hi => (h2 i hi).imp id (Nat.le_trans hf.size), (hf.mono (G := F) fun _ hi => hi.elim).trans h3 fun i hi => .inl hi⟩
theorem RTo.more (h : RTo w F p r n w') (hn : n ≤ m) : RTo w F p r m w' := by
  obtain ⟨F', h1, h2⟩ := h
  exact ⟨F', h1.more hn, h2⟩
theorem RTo.own {w0 : World} (h : RTo w1 F p r n w') (hf : Fr No w0 w1) (hN : ∀ i, F i → w0.heap.size ≤ i) : ∃ F', RAt w' F' p r n ∧ (∀ i, F' i → w0.heap.size ≤ i) ∧ Fr No w0 w' := by
  obtain ⟨F', g1, g2, g3⟩ := h
  exact ⟨F', g1, fun i hi => (g2 i hi).elim (fun h => hN i h) (fun h => Nat.le_trans hf.size h), hf.transNew g3 hN⟩
/-- The journal of a replica has turned. -/
theorem RAt.jrn {j : Nat} {Fj : Nat → Prop} {bits : Int} {nx mt : Nat → Int} {s' : Js} (h1 : Blk w p TRep (repCells j r bits nx mt)) (h2 : F p) (h4 : ∀ i, Fj i → F i) (h5 : ¬ Fj p) (h6 : ∀ i, F i → i < w.heap.size) (h7 : Sees r bits nx mt)
    (hj : JGTo true w Fj j s' m w') (hr : RsOk { r with js := s' }) : RTo w F p { r with js := s' } m w' := by
  obtain ⟨Fj', g1, g2, g3⟩ := hj
  have hpl := h6 p h2
  refine ⟨fun i => F i ∨ (w.heap.size ≤ i ∧ i < w'.heap.size), ⟨j, Fj', bits, nx, mt, h1.fr g3 h5, .inl h2, g1, fun i hi => ?_, fun hi => ?_, fun i hi => ?_, h7, hr⟩, fun i hi => ?_, g3.mono h4⟩
  · rcases g2 i hi with h | h
    · exact .inl (h4 i h)
    · exact .inr ⟨h, g1.lt i hi⟩
  · rcases g2 p hi with h | h
    · exact h5 h
    · omega
  · rcases hi with h | h
    · exact Nat.lt_of_lt_of_le (h6 i h) g3.size
    · exact h.2
  · rcases hi with h | h
    · exact .inl h
    · exact .inr h.1
/-- The cells of a replica have turned. -/
theorem RAt.cells {j : Nat} {Fj : Nat → Prop} {bits' : Int} {nx' mt' : Nat → Int} (h2 : F p) (h3 : JG true w Fj j r.js n) (h4 : ∀ i, Fj i → F i) (h5 : ¬ Fj p) (h6 : ∀ i, F i → i < w.heap.size)
    (hf : Fr (fun i => i = p) w w') (hb : Blk w' p TRep (repCells j r' bits' nx' mt')) (hjs : r'.js = r.js) (h7 : Sees r' bits' nx' mt') (hr : RsOk r') : RTo w F p r' n w' := by
  refine ⟨F, ⟨j, Fj, bits', nx', mt', hb, h2, ?_, h4, h5, fun i hi => Nat.lt_of_lt_of_le (h6 i hi) hf.size, h7, hr⟩, fun i hi => .inl hi, hf.mono fun i hi => hi ▸ h2⟩
  rw [hjs]
  exact h3.fr hf fun i hi he => h5 (he ▸ hi)
end

/-- The value of a message whose entries are the slice v. -/
abbrev Ms.v (m : Ms) (v : Value) : Value := .agg #[.int .i64 m.kind, .int .i64 m.from_, .int .i64 m.to_, .int .i64 m.term, .int .i64 m.index, .int .i64 m.prev, .int .i64 m.commit, .bool m.ok, v]
def Ms.cells (m : Ms) (v : Value) : List Value := [.int .i64 m.kind, .int .i64 m.from_, .int .i64 m.to_, .int .i64 m.term, .int .i64 m.index, .int .i64 m.prev, .int .i64 m.commit, .bool m.ok, v]
/-- The slice v reads as the entries es; it lies in blocks of G. -/
def Ent (w : World) (G : Nat → Prop) (v : Value) (es : List Lg) : Prop :=
  ∃ A c, v = .slice A es.length c ∧ (A = none → es.length = 0) ∧ es.length ≤ c ∧ c ≤ maxLen ∧ (es = [] ∨ ∃ b off, A = some ⟨b, off, none⟩ ∧ G b ∧ b < w.heap.size ∧ ∀ k, (h : k < (logV es).length) → w.cell? ⟨b, off + k, none⟩ = some (logV es)[k])
theorem Ent.fr {w w' : World} {F G : Nat → Prop} {v : Value} {es : List Lg} (h : Ent w G v es) (hf : Fr F w w') (hd : ∀ i, G i → ¬ F i) : Ent w' G v es := by
  obtain ⟨A, c, h1, h2, h3, h4, h5⟩ := h
  refine ⟨A, c, h1, h2, h3, h4, h5.imp id ?_⟩
  rintro ⟨b, off, e1, e2, e3, e4⟩
  exact ⟨b, off, e1, e2, Nat.lt_of_lt_of_le e3 hf.size, fun k hk => (hf.cell (p := ⟨b, off + k, none⟩) e3 (hd b e2)).trans (e4 k hk)⟩
theorem Ent.frNo {w w' : World} {G : Nat → Prop} {v : Value} {es : List Lg} (h : Ent w G v es) (hf : Fr No w w') : Ent w' G v es := h.fr hf fun _ _ hi => hi
theorem Ent.mono {w : World} {G H : Nat → Prop} {v : Value} {es : List Lg} (h : Ent w G v es) (hGH : ∀ i, G i → H i) : Ent w H v es := by
  obtain ⟨A, c, h1, h2, h3, h4, h5⟩ := h
  exact ⟨A, c, h1, h2, h3, h4, h5.imp id fun ⟨b, off, e1, e2, e3⟩ => ⟨b, off, e1, hGH b e2, e3⟩⟩
theorem Ent.of_own {w : World} {G : Nat → Prop} {v : Value} {es : List Lg} (h : OwnN w G TLg 10 v es.length (logV es)) : Ent w G v es := by
  obtain ⟨A, c, rfl, hn⟩ := h.form
  obtain ⟨h1, h2⟩ := h.cap
  refine ⟨A, c, rfl, hn, h1, h2, ?_⟩
  rcases Nat.eq_zero_or_pos es.length with h0 | h0
  · exact .inl (List.eq_nil_of_length_eq_zero h0)
  · obtain ⟨b, rfl, h3, h4, h5⟩ := h.head h0
    exact .inr ⟨b, 0, rfl, h4, h3, fun k hk => by rw [Nat.zero_add, h5 k hk, List.getElem?_eq_getElem hk]⟩
theorem Ent.nil (w : World) (G : Nat → Prop) : Ent w G (.slice none 0 0) [] := ⟨none, 0, rfl, fun _ => rfl, Nat.le_refl _, by unfold maxLen; omega, .inl rfl⟩
theorem Ent.rd {w : World} {G : Nat → Prop} {A : Option Addr} {n c : Nat} {es : List Lg} (h : Ent w G (.slice A n c) es) : n = es.length ∧ (A = none → n = 0) ∧ n ≤ c ∧ c ≤ maxLen ∧ Rd w w.heap.size A (logV es) := by
  obtain ⟨A', c', h1, h2, h3, h4, h5⟩ := h
  injection h1 with e1 e2 e3
  subst e1 e2 e3
  refine ⟨rfl, h2, h3, h4, ?_⟩
  rcases h5 with rfl | ⟨b, off, e1, e2, e3, e4⟩
  · exact .inl rfl
  · exact .inr ⟨b, off, e1, e3, e4⟩
/-- The cells of a list of messages, with the slices of their entries. -/
def msV : List Ms → List Value → List Value
  | m :: ms, v :: vs => m.cells v ++ msV ms vs
  | _, _ => []
theorem msV_len : ∀ (ms : List Ms) (vs : List Value), vs.length = ms.length → (msV ms vs).length = ms.length * 9 := by
  intro ms
  induction ms with
  | nil => intro vs _; cases vs <;> rfl
  | cons m ms ih =>
    intro vs h
    rcases vs with _ | ⟨v, vs⟩
    · simp at h
    · simp only [msV, List.length_append, List.length_cons]
      rw [ih vs (by simpa using h), Nat.succ_mul]
      simp [Ms.cells]
      omega
theorem msV_snoc : ∀ (ms : List Ms) (vs : List Value) (m : Ms) (v : Value), vs.length = ms.length → msV (ms ++ [m]) (vs ++ [v]) = msV ms vs ++ m.cells v := by
  intro ms
  induction ms with
  | nil =>
    intro vs m v h
    obtain rfl : vs = [] := List.eq_nil_of_length_eq_zero (by simpa using h)
    simp [msV]
  | cons x ms ih =>
    intro vs m v h
    rcases vs with _ | ⟨y, vs⟩
    · simp at h
    · simp only [List.cons_append, msV, List.append_assoc]
      rw [ih vs m v (by simpa using h)]
/-- The slice v has the messages ms: its row lies in blocks of Gs, their entries in blocks of Ge. -/
structure MsIn (w : World) (Gs Ge : Nat → Prop) (v : Value) (ms : List Ms) (vs : List Value) : Prop where
  own : OwnN w Gs TMs 9 v ms.length (msV ms vs)
  len : vs.length = ms.length
  each : ∀ (i : Nat) (m : Ms) (x : Value), ms[i]? = some m → vs[i]? = some x → Ent w Ge x m.es
  apart : ∀ i, Gs i → ¬ Ge i
  ltS : ∀ i, Gs i → i < w.heap.size
  ltE : ∀ i, Ge i → i < w.heap.size
/-- The slice v has the messages ms; all of it lies in blocks of G. -/
def MsgsAt (w : World) (G : Nat → Prop) (v : Value) (ms : List Ms) : Prop := ∃ Gs Ge vs, MsIn w Gs Ge v ms vs ∧ (∀ i, Gs i → G i) ∧ ∀ i, Ge i → G i
theorem MsIn.fr {w w' : World} {F Gs Ge : Nat → Prop} {v : Value} {ms : List Ms} {vs : List Value} (h : MsIn w Gs Ge v ms vs) (hf : Fr F w w') (hs : ∀ i, Gs i → ¬ F i) (he : ∀ i, Ge i → ¬ F i) : MsIn w' Gs Ge v ms vs :=
  ⟨h.own.fr' hf fun g hg => hs g (h.own.2 g hg), h.len, fun i m x hm hx => (h.each i m x hm hx).fr hf he, h.apart, fun i hi => Nat.lt_of_lt_of_le (h.ltS i hi) hf.size, fun i hi => Nat.lt_of_lt_of_le (h.ltE i hi) hf.size⟩
theorem MsIn.frNo {w w' : World} {Gs Ge : Nat → Prop} {v : Value} {ms : List Ms} {vs : List Value} (h : MsIn w Gs Ge v ms vs) (hf : Fr No w w') : MsIn w' Gs Ge v ms vs := h.fr hf (fun _ _ hi => hi) (fun _ _ hi => hi)
theorem MsgsAt.fr {w w' : World} {F G : Nat → Prop} {v : Value} {ms : List Ms} (h : MsgsAt w G v ms) (hf : Fr F w w') (hd : ∀ i, G i → ¬ F i) : MsgsAt w' G v ms := by
  obtain ⟨Gs, Ge, vs, h1, h2, h3⟩ := h
  exact ⟨Gs, Ge, vs, h1.fr hf (fun i hi => hd i (h2 i hi)) (fun i hi => hd i (h3 i hi)), h2, h3⟩
theorem MsgsAt.frNo {w w' : World} {G : Nat → Prop} {v : Value} {ms : List Ms} (h : MsgsAt w G v ms) (hf : Fr No w w') : MsgsAt w' G v ms := h.fr hf fun _ _ hi => hi
theorem MsgsAt.nil (w : World) (G : Nat → Prop) : MsgsAt w G (.slice none 0 0) [] :=
  ⟨No, No, [], ⟨OwnN.nil _ _ _ _, rfl, fun i m x hm => by simp at hm, fun _ h => h.elim, fun _ h => h.elim, fun _ h => h.elim⟩, fun _ h => h.elim, fun _ h => h.elim⟩
theorem MsgsAt.mono {w : World} {G H : Nat → Prop} {v : Value} {ms : List Ms} (h : MsgsAt w G v ms) (hGH : ∀ i, G i → H i) : MsgsAt w H v ms := by
  obtain ⟨Gs, Ge, vs, h1, h2, h3⟩ := h
  exact ⟨Gs, Ge, vs, h1, fun i hi => hGH i (h2 i hi), fun i hi => hGH i (h3 i hi)⟩
theorem Ent.lt {w : World} {G : Nat → Prop} {v : Value} {es : List Lg} (h : Ent w G v es) : Ent w (fun i => G i ∧ i < w.heap.size) v es := by
  obtain ⟨A, c, h1, h2, h3, h4, h5⟩ := h
  exact ⟨A, c, h1, h2, h3, h4, h5.imp id fun ⟨b, off, e1, e2, e3, e4⟩ => ⟨b, off, e1, ⟨e2, e3⟩, e3, e4⟩⟩
theorem ms_one (m : Ms) {w : World} {G : Nat → Prop} {x : Value} (hx : Ent w G x m.es) : ∀ u ∈ m.cells x, u.oneCell' = true := by
  obtain ⟨A, c, rfl, -⟩ := hx
  intro u hu
  simp only [Ms.cells, List.mem_cons, List.not_mem_nil, or_false] at hu
  rcases hu with rfl | rfl | rfl | rfl | rfl | rfl | rfl | rfl | rfl <;> rfl
/-- A message was appended. -/
theorem MsIn.snoc {W W2 W3 : World} {G Gs Ge : Nat → Prop} {v v' x : Value} {ms : List Ms} {vs : List Value} {m : Ms} (h : MsIn W Gs Ge v ms vs) (hG : ∀ i, W.heap.size ≤ i → G i) (hs : ∀ i, Gs i → G i) (he : ∀ i, Ge i → G i) (hf : Fr No W W2) (hx : Ent W2 (fun b => W.heap.size ≤ b) x m.es)
    (ha : AppendedN W2 0 TMs 9 v ms.length (msV ms vs) (m.cells x) 1 v' W3) : MsgsAt W3 G v' (ms ++ [m]) ∧ Fr (fun i => Gs i) W2 W3 := by
  obtain ⟨o1, f1⟩ := (h.own.frNo hf).appended ha
  have hsz := hf.size
  have hsz2 := f1.size
  refine ⟨⟨fun i => Gs i ∨ (i = W2.heap.size ∧ i < W3.heap.size), fun i => Ge i ∨ (W.heap.size ≤ i ∧ i < W2.heap.size), vs ++ [x], ⟨?_, by simp [h.len], fun i m' x' hm hx' => ?_, fun i hi hh => ?_, fun i hi => ?_, fun i hi => ?_⟩, fun i hi => ?_, fun i hi => ?_⟩, f1⟩
  · rw [msV_snoc _ _ _ _ h.len, List.length_append, List.length_singleton]
    exact o1
  · rcases Nat.lt_or_ge i ms.length with hi | hi
    · rw [List.getElem?_append_left hi] at hm
      rw [List.getElem?_append_left (by rw [h.len]; exact hi)] at hx'
      exact (((h.each i m' x' hm hx').frNo hf).fr f1 fun k hk hh => h.apart k hh hk).mono fun k hk => .inl hk
    · rw [List.getElem?_append_right hi] at hm
      rw [List.getElem?_append_right (by rw [h.len]; exact hi)] at hx'
      have hi0 : i - ms.length = 0 := by
        have := (List.getElem?_eq_some_iff.1 hm).1
        simp at this; omega
      rw [hi0] at hm
      rw [h.len, hi0] at hx'
      simp at hm hx'
      subst hm hx'
      exact (hx.lt.fr f1 fun k hk hh => by have := h.ltS k hh; have := hk.1; omega).mono fun k hk => .inr hk
  · rcases hi with hi | hi
    · rcases hh with hh | hh
      · exact h.apart i hi hh
      · have := h.ltS i hi; omega
    · rcases hh with hh | hh
      · have := h.ltE i hh; omega
      · omega
  · rcases hi with hi | hi
    · have := h.ltS i hi; omega
    · exact hi.2
  · rcases hi with hi | hi
    · have := h.ltE i hi; omega
    · omega
  · rcases hi with hi | hi
    · exact hs i hi
    · exact hG i (by omega)
  · rcases hi with hi | hi
    · exact he i hi
    · exact hG i hi.1
end Go.Proofs.Ytokblidfekbeeaa
/- The program's replica: readers, its journal's turns, messages. -/
namespace Go.Proofs.Ytokblidfekbeeaa
open Go.ChangeShapes Go.WideShapes Go.ChangeAt Go.RowKit
set_option linter.unusedVariables false

theorem cell_lt {w : World} {b o : Nat} {v : Value} (h : w.cell? ⟨b, o, none⟩ = some v) : b < w.heap.size := by
  unfold World.cell? at h
  rcases Nat.lt_or_ge b w.heap.size with hlt | hge
  · exact hlt
  · simp [Array.getElem?_eq_none hge] at h
/-- The block p has a pointer to a synced journal that remembers s. -/
def RJ (w : World) (p : Nat) (s : Js) (n : Nat) : Prop := ∃ j Fj, w.cell? ⟨p, 0, none⟩ = some (.pointer (some ⟨j, 0, none⟩)) ∧ JG true w Fj j s n ∧ ¬ Fj p
section
variable {w w' : World} {F : Nat → Prop} {p : Nat} {r : Rs} {s : Js} {n : Nat}
theorem RAt.rj (h : RAt w F p r n) : RJ w p r.js n := by
  obtain ⟨j, Fj, bits, nx, mt, h1, h2, h3, h4, h5, h6, h7⟩ := h
  exact ⟨j, Fj, h1.cell 0, h3, h5⟩
theorem RJ.frNo (h : RJ w p s n) (hf : Fr No w w') : RJ w' p s n := by
  obtain ⟨j, Fj, h1, h2, h3⟩ := h
  exact ⟨j, Fj, (hf.cell (p := ⟨p, 0, none⟩) (cell_lt h1) (fun h => h)).trans h1, h2.frNo hf, h3⟩
theorem RJ.frp (h : RJ w p s n) (hf : Fr (fun i => i = p) w w') (hc : w'.cell? ⟨p, 0, none⟩ = w.cell? ⟨p, 0, none⟩) : RJ w' p s n := by
  obtain ⟨j, Fj, h1, h2, h3⟩ := h
  exact ⟨j, Fj, hc.trans h1, h2.fr hf fun i hi he => h3 (he ▸ hi), h3⟩
theorem p_role (h : RAt w F p r n) : Calls Try.prog 37 #[.pointer (some ⟨p, 0, none⟩)] w fun e w' => e = .returned (.int .i64 r.role) ∧ w = w' := by
  obtain ⟨j, Fj, bits, nx, mt, h1, -⟩ := h
  have c3 : w.cell? ⟨p, 3, none⟩ = some (.int .i64 r.role) := h1.cell 3
  clear h1
  go_enter Try.func37, Try.ntmps37
  go_wp2_with fail
  go_ret
  exact ⟨rfl, rfl⟩
theorem p_commit (h : RAt w F p r n) : Calls Try.prog 36 #[.pointer (some ⟨p, 0, none⟩)] w fun e w' => e = .returned (.int .i64 (r.commit : Int)) ∧ w = w' := by
  obtain ⟨j, Fj, bits, nx, mt, h1, -⟩ := h
  have c3 : w.cell? ⟨p, 4, none⟩ = some (.int .i64 (r.commit : Int)) := h1.cell 4
  clear h1
  go_enter Try.func36, Try.ntmps36
  go_wp2_with fail
  go_ret
  exact ⟨rfl, rfl⟩
theorem p_term (h : RJ w p s n) : Calls Try.prog 38 #[.pointer (some ⟨p, 0, none⟩)] w fun e w' => e = .returned (.int .i64 s.term) ∧ w = w' := by
  obtain ⟨j, Fj, c0, h3, -⟩ := h
  have hg := g_term h3
  clear h3
  have HG := Lib.hid hg
  clear hg
  go_enter Try.func38, Try.ntmps38
  go_wp2_with fail
  refine HG.out.mono ?_
  rintro e w' ⟨rfl, rfl⟩
  go_wp2_with fail
  go_ret
  exact ⟨rfl, rfl⟩
theorem p_vote (h : RJ w p s n) : Calls Try.prog 78 #[.pointer (some ⟨p, 0, none⟩)] w fun e w' => e = .returned (.int .i64 s.vote) ∧ w = w' := by
  obtain ⟨j, Fj, c0, h3, -⟩ := h
  have hg := g_vote h3
  clear h3
  have HG := Lib.hid hg
  clear hg
  go_enter Try.func78, Try.ntmps78
  go_wp2_with fail
  refine HG.out.mono ?_
  rintro e w' ⟨rfl, rfl⟩
  go_wp2_with fail
  go_ret
  exact ⟨rfl, rfl⟩
theorem p_len (h : RJ w p s n) : Calls Try.prog 64 #[.pointer (some ⟨p, 0, none⟩)] w fun e w' => e = .returned (.int .i64 (s.log.length : Int)) ∧ w = w' := by
  obtain ⟨j, Fj, c0, h3, -⟩ := h
  have hg := g_len h3
  clear h3
  have HG := Lib.hid hg
  clear hg
  go_enter Try.func64, Try.ntmps64
  go_wp2_with fail
  refine HG.out.mono ?_
  rintro e w' ⟨rfl, rfl⟩
  go_wp2_with fail
  go_ret
  exact ⟨rfl, rfl⟩
theorem lg_cells {w : World} {g : Nat} {x : Lg} (hb : Blk w g TLg x.cells.toArray) : w.cell? ⟨g, 0, none⟩ = some (.int .i64 x.term) ∧ w.cell? ⟨g, 1, none⟩ = some (.int .i64 x.e.kind) ∧ w.cell? ⟨g, 2, none⟩ = some (.int .i64 x.e.tick) ∧ w.cell? ⟨g, 3, none⟩ = some (.int .i64 x.e.tenant) ∧ w.cell? ⟨g, 4, none⟩ = some (.int .i64 x.e.cell) ∧ w.cell? ⟨g, 5, none⟩ = some (.int .i64 x.e.other) ∧ w.cell? ⟨g, 6, none⟩ = some (.int .i64 x.e.epoch) ∧ w.cell? ⟨g, 7, none⟩ = some (.int .i64 x.e.from_) ∧ w.cell? ⟨g, 8, none⟩ = some (.int .i64 x.e.until_) ∧ w.cell? ⟨g, 9, none⟩ = some (.int .i64 x.e.n) :=
  ⟨hb.cell 0, hb.cell 1, hb.cell 2, hb.cell 3, hb.cell 4, hb.cell 5, hb.cell 6, hb.cell 7, hb.cell 8, hb.cell 9⟩
theorem at_results (x : Lg) (g : Nat) (y : Value) (ts : Array Value) (W : World) (hb : Blk W g TLg x.cells.toArray) (h2 : ts[4]?.getD undef = .pointer (some ⟨g, 0, none⟩)) (h3 : ts[5]?.getD undef = y) :
    (results Try.f75 ts).run Try.prog W = .ok (.tuple #[x.v, y]) W := by
  obtain ⟨c0, c1, c2, c3, c4, c5, c6, c7, c8, c9⟩ := lg_cells hb
  clear hb
  simp [results, Try.results75, go_sem, h2, h3, Lg.v, c0, c1, c2, c3, c4, c5, c6, c7, c8, c9]
theorem lg_fill {Z : World} {q : Nat} (x : Lg) (h : Blk Z q TLg #[.int .i64 0, .int .i64 0, .int .i64 0, .int .i64 0, .int .i64 0, .int .i64 0, .int .i64 0, .int .i64 0, .int .i64 0, .int .i64 0]) : Blk (World.setCell (World.setCell (World.setCell (World.setCell (World.setCell (World.setCell (World.setCell (World.setCell (World.setCell (World.setCell Z ⟨q, 0, none⟩ (.int .i64 x.term)) ⟨q, 1, none⟩ (.int .i64 x.e.kind)) ⟨q, 2, none⟩ (.int .i64 x.e.tick)) ⟨q, 3, none⟩ (.int .i64 x.e.tenant)) ⟨q, 4, none⟩ (.int .i64 x.e.cell)) ⟨q, 5, none⟩ (.int .i64 x.e.other)) ⟨q, 6, none⟩ (.int .i64 x.e.epoch)) ⟨q, 7, none⟩ (.int .i64 x.e.from_)) ⟨q, 8, none⟩ (.int .i64 x.e.until_)) ⟨q, 9, none⟩ (.int .i64 x.e.n)) q TLg #[.int .i64 x.term, .int .i64 x.e.kind, .int .i64 x.e.tick, .int .i64 x.e.tenant, .int .i64 x.e.cell, .int .i64 x.e.other, .int .i64 x.e.epoch, .int .i64 x.e.from_, .int .i64 x.e.until_, .int .i64 x.e.n] := by
  refine Blk.conv (Blk.set_ (Blk.set_ (Blk.set_ (Blk.set_ (Blk.set_ (Blk.set_ (Blk.set_ (Blk.set_ (Blk.set_ (Blk.set_ h 0 (.int .i64 x.term)) 1 (.int .i64 x.e.kind)) 2 (.int .i64 x.e.tick)) 3 (.int .i64 x.e.tenant)) 4 (.int .i64 x.e.cell)) 5 (.int .i64 x.e.other)) 6 (.int .i64 x.e.epoch)) 7 (.int .i64 x.e.from_)) 8 (.int .i64 x.e.until_)) 9 (.int .i64 x.e.n)) ?_
  simp only [List.setIfInBounds_toArray, List.set_cons_zero, List.set_cons_succ]
theorem lg_fill_fr {w Z : World} {q : Nat} (x : Lg) (h : Fr No w Z) (hq : w.heap.size ≤ q) : Fr No w (World.setCell (World.setCell (World.setCell (World.setCell (World.setCell (World.setCell (World.setCell (World.setCell (World.setCell (World.setCell Z ⟨q, 0, none⟩ (.int .i64 x.term)) ⟨q, 1, none⟩ (.int .i64 x.e.kind)) ⟨q, 2, none⟩ (.int .i64 x.e.tick)) ⟨q, 3, none⟩ (.int .i64 x.e.tenant)) ⟨q, 4, none⟩ (.int .i64 x.e.cell)) ⟨q, 5, none⟩ (.int .i64 x.e.other)) ⟨q, 6, none⟩ (.int .i64 x.e.epoch)) ⟨q, 7, none⟩ (.int .i64 x.e.from_)) ⟨q, 8, none⟩ (.int .i64 x.e.until_)) ⟨q, 9, none⟩ (.int .i64 x.e.n)) := Fr.setCell (Fr.setCell (Fr.setCell (Fr.setCell (Fr.setCell (Fr.setCell (Fr.setCell (Fr.setCell (Fr.setCell (Fr.setCell h (p := ⟨q, 0, none⟩) (.inr hq) (.int .i64 x.term)) (p := ⟨q, 1, none⟩) (.inr hq) (.int .i64 x.e.kind)) (p := ⟨q, 2, none⟩) (.inr hq) (.int .i64 x.e.tick)) (p := ⟨q, 3, none⟩) (.inr hq) (.int .i64 x.e.tenant)) (p := ⟨q, 4, none⟩) (.inr hq) (.int .i64 x.e.cell)) (p := ⟨q, 5, none⟩) (.inr hq) (.int .i64 x.e.other)) (p := ⟨q, 6, none⟩) (.inr hq) (.int .i64 x.e.epoch)) (p := ⟨q, 7, none⟩) (.inr hq) (.int .i64 x.e.from_)) (p := ⟨q, 8, none⟩) (.inr hq) (.int .i64 x.e.until_)) (p := ⟨q, 9, none⟩) (.inr hq) (.int .i64 x.e.n)
theorem lg_fill_frF {w Z : World} {F : Nat → Prop} {q : Nat} (x : Lg) (h : Fr F w Z) (hq : F q) : Fr F w (World.setCell (World.setCell (World.setCell (World.setCell (World.setCell (World.setCell (World.setCell (World.setCell (World.setCell (World.setCell Z ⟨q, 0, none⟩ (.int .i64 x.term)) ⟨q, 1, none⟩ (.int .i64 x.e.kind)) ⟨q, 2, none⟩ (.int .i64 x.e.tick)) ⟨q, 3, none⟩ (.int .i64 x.e.tenant)) ⟨q, 4, none⟩ (.int .i64 x.e.cell)) ⟨q, 5, none⟩ (.int .i64 x.e.other)) ⟨q, 6, none⟩ (.int .i64 x.e.epoch)) ⟨q, 7, none⟩ (.int .i64 x.e.from_)) ⟨q, 8, none⟩ (.int .i64 x.e.until_)) ⟨q, 9, none⟩ (.int .i64 x.e.n)) := Fr.setCell (Fr.setCell (Fr.setCell (Fr.setCell (Fr.setCell (Fr.setCell (Fr.setCell (Fr.setCell (Fr.setCell (Fr.setCell h (p := ⟨q, 0, none⟩) (.inl hq) (.int .i64 x.term)) (p := ⟨q, 1, none⟩) (.inl hq) (.int .i64 x.e.kind)) (p := ⟨q, 2, none⟩) (.inl hq) (.int .i64 x.e.tick)) (p := ⟨q, 3, none⟩) (.inl hq) (.int .i64 x.e.tenant)) (p := ⟨q, 4, none⟩) (.inl hq) (.int .i64 x.e.cell)) (p := ⟨q, 5, none⟩) (.inl hq) (.int .i64 x.e.other)) (p := ⟨q, 6, none⟩) (.inl hq) (.int .i64 x.e.epoch)) (p := ⟨q, 7, none⟩) (.inl hq) (.int .i64 x.e.from_)) (p := ⟨q, 8, none⟩) (.inl hq) (.int .i64 x.e.until_)) (p := ⟨q, 9, none⟩) (.inl hq) (.int .i64 x.e.n)

set_option maxHeartbeats 1000000 in
theorem p_at (h : RJ w p s n) (i : Int) : Calls Try.prog 75 #[.pointer (some ⟨p, 0, none⟩), .int .i64 i] w fun e w' => e = .returned (.tuple #[(atJ s.log i).1.v, .bool (atJ s.log i).2]) ∧ Fr No w w' := by
  have c0 := fun W (hW : Fr No w W) => h.frNo hW
  obtain ⟨j, Fj, c00, h3, -⟩ := c0 _ (fr_alloc w (.cells #[.int .i64 0, .int .i64 0, .int .i64 0, .int .i64 0, .int .i64 0, .int .i64 0, .int .i64 0, .int .i64 0, .int .i64 0, .int .i64 0] TLg))
  have hg := g_at h3 i
  clear h3 c0 h
  generalize (atJ s.log i).1 = x at *
  generalize (atJ s.log i).2 = b at *
  obtain ⟨t, ⟨kd, tick, te, ce, ot, ep, fr, un, nn⟩⟩ := x
  unfold Lg.v at hg ⊢
  simp only at hg ⊢
  have HG := Lib.hid hg
  clear hg
  go_enter Try.func75, Try.ntmps75
  go_wp2_with fail
  refine HG.out.mono ?_
  rintro e w1 ⟨rfl, f1⟩
  have hb := (Blk.new w TLg #[.int .i64 0, .int .i64 0, .int .i64 0, .int .i64 0, .int .i64 0, .int .i64 0, .int .i64 0, .int .i64 0, .int .i64 0, .int .i64 0]).fr f1 (fun h => h)
  have F1 := Lib.hid ((fr_alloc w (.cells #[.int .i64 0, .int .i64 0, .int .i64 0, .int .i64 0, .int .i64 0, .int .i64 0, .int .i64 0, .int .i64 0, .int .i64 0, .int .i64 0] TLg)).transNo f1)
  have q0 : w1.cell? ⟨w.heap.size, 0, none⟩ = some (.int .i64 0) := hb.cell 0
  have q1 : w1.cell? ⟨w.heap.size, 1, none⟩ = some (.int .i64 0) := hb.cell 1
  have q2 : w1.cell? ⟨w.heap.size, 2, none⟩ = some (.int .i64 0) := hb.cell 2
  have q3 : w1.cell? ⟨w.heap.size, 3, none⟩ = some (.int .i64 0) := hb.cell 3
  have q4 : w1.cell? ⟨w.heap.size, 4, none⟩ = some (.int .i64 0) := hb.cell 4
  have q5 : w1.cell? ⟨w.heap.size, 5, none⟩ = some (.int .i64 0) := hb.cell 5
  have q6 : w1.cell? ⟨w.heap.size, 6, none⟩ = some (.int .i64 0) := hb.cell 6
  have q7 : w1.cell? ⟨w.heap.size, 7, none⟩ = some (.int .i64 0) := hb.cell 7
  have q8 : w1.cell? ⟨w.heap.size, 8, none⟩ = some (.int .i64 0) := hb.cell 8
  have q9 : w1.cell? ⟨w.heap.size, 9, none⟩ = some (.int .i64 0) := hb.cell 9
  have y0 := hb.frozen 0
  have y1 := hb.frozen 1
  have y2 := hb.frozen 2
  have y3 := hb.frozen 3
  have y4 := hb.frozen 4
  have y5 := hb.frozen 5
  have y6 := hb.frozen 6
  have y7 := hb.frozen 7
  have y8 := hb.frozen 8
  have y9 := hb.frozen 9
  have HB := Lib.hid hb
  clear hb
  clear f1
  go_wp2_with fail
  exact bodyPost_ret (v := .tuple #[Lg.v ⟨t, ⟨kd, tick, te, ce, ot, ep, fr, un, nn⟩⟩, .bool b]) (at_results ⟨t, ⟨kd, tick, te, ce, ot, ep, fr, un, nn⟩⟩ w.heap.size _ _ _ (lg_fill ⟨t, ⟨kd, tick, te, ce, ot, ep, fr, un, nn⟩⟩ HB.out) rfl rfl) rfl ⟨rfl, lg_fill_fr ⟨t, ⟨kd, tick, te, ce, ot, ep, fr, un, nn⟩⟩ F1.out (Nat.le_refl _)⟩
end
end Go.Proofs.Ytokblidfekbeeaa
/- The program's replica: messages, parts of the log, the journal's turns. -/
namespace Go.Proofs.Ytokblidfekbeeaa
open Go.ChangeShapes Go.WideShapes Go.ChangeAt Go.RowKit
set_option linter.unusedVariables false

theorem ms_fill {Z : World} {q : Nat} (m : Ms) (v : Value) (h : Blk Z q TMs #[.int .i64 0, .int .i64 0, .int .i64 0, .int .i64 0, .int .i64 0, .int .i64 0, .int .i64 0, .bool false, .slice none 0 0]) : Blk (World.setCell (World.setCell (World.setCell (World.setCell (World.setCell (World.setCell (World.setCell (World.setCell (World.setCell Z ⟨q, 0, none⟩ (.int .i64 m.kind)) ⟨q, 1, none⟩ (.int .i64 m.from_)) ⟨q, 2, none⟩ (.int .i64 m.to_)) ⟨q, 3, none⟩ (.int .i64 m.term)) ⟨q, 4, none⟩ (.int .i64 m.index)) ⟨q, 5, none⟩ (.int .i64 m.prev)) ⟨q, 6, none⟩ (.int .i64 m.commit)) ⟨q, 7, none⟩ (.bool m.ok)) ⟨q, 8, none⟩ (v)) q TMs #[.int .i64 m.kind, .int .i64 m.from_, .int .i64 m.to_, .int .i64 m.term, .int .i64 m.index, .int .i64 m.prev, .int .i64 m.commit, .bool m.ok, v] := by
  refine Blk.conv (Blk.set_ (Blk.set_ (Blk.set_ (Blk.set_ (Blk.set_ (Blk.set_ (Blk.set_ (Blk.set_ (Blk.set_ h 0 (.int .i64 m.kind)) 1 (.int .i64 m.from_)) 2 (.int .i64 m.to_)) 3 (.int .i64 m.term)) 4 (.int .i64 m.index)) 5 (.int .i64 m.prev)) 6 (.int .i64 m.commit)) 7 (.bool m.ok)) 8 (v)) ?_
  simp only [List.setIfInBounds_toArray, List.set_cons_zero, List.set_cons_succ]
theorem ms_fill_fr {w Z : World} {q : Nat} (m : Ms) (v : Value) (h : Fr No w Z) (hq : w.heap.size ≤ q) : Fr No w (World.setCell (World.setCell (World.setCell (World.setCell (World.setCell (World.setCell (World.setCell (World.setCell (World.setCell Z ⟨q, 0, none⟩ (.int .i64 m.kind)) ⟨q, 1, none⟩ (.int .i64 m.from_)) ⟨q, 2, none⟩ (.int .i64 m.to_)) ⟨q, 3, none⟩ (.int .i64 m.term)) ⟨q, 4, none⟩ (.int .i64 m.index)) ⟨q, 5, none⟩ (.int .i64 m.prev)) ⟨q, 6, none⟩ (.int .i64 m.commit)) ⟨q, 7, none⟩ (.bool m.ok)) ⟨q, 8, none⟩ (v)) := Fr.setCell (Fr.setCell (Fr.setCell (Fr.setCell (Fr.setCell (Fr.setCell (Fr.setCell (Fr.setCell (Fr.setCell h (p := ⟨q, 0, none⟩) (.inr hq) (.int .i64 m.kind)) (p := ⟨q, 1, none⟩) (.inr hq) (.int .i64 m.from_)) (p := ⟨q, 2, none⟩) (.inr hq) (.int .i64 m.to_)) (p := ⟨q, 3, none⟩) (.inr hq) (.int .i64 m.term)) (p := ⟨q, 4, none⟩) (.inr hq) (.int .i64 m.index)) (p := ⟨q, 5, none⟩) (.inr hq) (.int .i64 m.prev)) (p := ⟨q, 6, none⟩) (.inr hq) (.int .i64 m.commit)) (p := ⟨q, 7, none⟩) (.inr hq) (.bool m.ok)) (p := ⟨q, 8, none⟩) (.inr hq) (v)
theorem ms_fill_frF {w Z : World} {F : Nat → Prop} {q : Nat} (m : Ms) (v : Value) (h : Fr F w Z) (hq : F q) : Fr F w (World.setCell (World.setCell (World.setCell (World.setCell (World.setCell (World.setCell (World.setCell (World.setCell (World.setCell Z ⟨q, 0, none⟩ (.int .i64 m.kind)) ⟨q, 1, none⟩ (.int .i64 m.from_)) ⟨q, 2, none⟩ (.int .i64 m.to_)) ⟨q, 3, none⟩ (.int .i64 m.term)) ⟨q, 4, none⟩ (.int .i64 m.index)) ⟨q, 5, none⟩ (.int .i64 m.prev)) ⟨q, 6, none⟩ (.int .i64 m.commit)) ⟨q, 7, none⟩ (.bool m.ok)) ⟨q, 8, none⟩ (v)) := Fr.setCell (Fr.setCell (Fr.setCell (Fr.setCell (Fr.setCell (Fr.setCell (Fr.setCell (Fr.setCell (Fr.setCell h (p := ⟨q, 0, none⟩) (.inl hq) (.int .i64 m.kind)) (p := ⟨q, 1, none⟩) (.inl hq) (.int .i64 m.from_)) (p := ⟨q, 2, none⟩) (.inl hq) (.int .i64 m.to_)) (p := ⟨q, 3, none⟩) (.inl hq) (.int .i64 m.term)) (p := ⟨q, 4, none⟩) (.inl hq) (.int .i64 m.index)) (p := ⟨q, 5, none⟩) (.inl hq) (.int .i64 m.prev)) (p := ⟨q, 6, none⟩) (.inl hq) (.int .i64 m.commit)) (p := ⟨q, 7, none⟩) (.inl hq) (.bool m.ok)) (p := ⟨q, 8, none⟩) (.inl hq) (v)
theorem ms_cells {w : World} {g : Nat} {m : Ms} {v : Value} (hb : Blk w g TMs #[.int .i64 m.kind, .int .i64 m.from_, .int .i64 m.to_, .int .i64 m.term, .int .i64 m.index, .int .i64 m.prev, .int .i64 m.commit, .bool m.ok, v]) : w.cell? ⟨g, 0, none⟩ = some (.int .i64 m.kind) ∧ w.cell? ⟨g, 1, none⟩ = some (.int .i64 m.from_) ∧ w.cell? ⟨g, 2, none⟩ = some (.int .i64 m.to_) ∧ w.cell? ⟨g, 3, none⟩ = some (.int .i64 m.term) ∧ w.cell? ⟨g, 4, none⟩ = some (.int .i64 m.index) ∧ w.cell? ⟨g, 5, none⟩ = some (.int .i64 m.prev) ∧ w.cell? ⟨g, 6, none⟩ = some (.int .i64 m.commit) ∧ w.cell? ⟨g, 7, none⟩ = some (.bool m.ok) ∧ w.cell? ⟨g, 8, none⟩ = some (v) :=
  ⟨hb.cell 0, hb.cell 1, hb.cell 2, hb.cell 3, hb.cell 4, hb.cell 5, hb.cell 6, hb.cell 7, hb.cell 8⟩
theorem message_results (m : Ms) (v : Value) (g : Nat) (ts : Array Value) (W : World) (hb : Blk W g TMs #[.int .i64 m.kind, .int .i64 m.from_, .int .i64 m.to_, .int .i64 m.term, .int .i64 m.index, .int .i64 m.prev, .int .i64 m.commit, .bool m.ok, v]) (h2 : ts[6]?.getD undef = .pointer (some ⟨g, 0, none⟩)) :
    (results Try.f63 ts).run Try.prog W = .ok (m.v v) W := by
  obtain ⟨c0, c1, c2, c3, c4, c5, c6, c7, c8⟩ := ms_cells hb
  clear hb
  simp [results, Try.results63, go_sem, h2, c0, c1, c2, c3, c4, c5, c6, c7, c8]
theorem campaign1_results (m : Ms) (v : Value) (g : Nat) (ts : Array Value) (W : World) (hb : Blk W g TMs #[.int .i64 m.kind, .int .i64 m.from_, .int .i64 m.to_, .int .i64 m.term, .int .i64 m.index, .int .i64 m.prev, .int .i64 m.commit, .bool m.ok, v]) (h2 : ts[3]?.getD undef = .pointer (some ⟨g, 0, none⟩)) :
    (results Try.f62 ts).run Try.prog W = .ok (m.v v) W := by
  obtain ⟨c0, c1, c2, c3, c4, c5, c6, c7, c8⟩ := ms_cells hb
  clear hb
  simp [results, Try.results62, go_sem, h2, c0, c1, c2, c3, c4, c5, c6, c7, c8]
theorem appending_results (m : Ms) (v : Value) (g : Nat) (ts : Array Value) (W : World) (hb : Blk W g TMs #[.int .i64 m.kind, .int .i64 m.from_, .int .i64 m.to_, .int .i64 m.term, .int .i64 m.index, .int .i64 m.prev, .int .i64 m.commit, .bool m.ok, v]) (h2 : ts[4]?.getD undef = .pointer (some ⟨g, 0, none⟩)) :
    (results Try.f69 ts).run Try.prog W = .ok (m.v v) W := by
  obtain ⟨c0, c1, c2, c3, c4, c5, c6, c7, c8⟩ := ms_cells hb
  clear hb
  simp [results, Try.results69, go_sem, h2, c0, c1, c2, c3, c4, c5, c6, c7, c8]
section
variable {w w' : World} {F : Nat → Prop} {p : Nat} {r : Rs} {s : Js} {n : Nat}
set_option maxHeartbeats 1000000 in
theorem p_lastTerm (h : RJ w p s n) (hl : s.log.length ≤ 4096) : Calls Try.prog 65 #[.pointer (some ⟨p, 0, none⟩)] w fun e w' => e = .returned (.int .i64 (lastT s.log)) ∧ Fr No w w' := by
  have hLen := fun W (hW : Fr No w W) => p_len (h.frNo hW)
  obtain ⟨j, Fj, c00, h3, -⟩ := h
  have c0 := fun W (hW : Fr No w W) => (hW.cell (p := ⟨p, 0, none⟩) (cell_lt c00) (fun h => h)).trans c00
  have hT := fun W (hW : Fr No w W) => g_termAt (h3.frNo hW) ((s.log.length : Int) - 1)
  have hwr : IntKind.i64.wrap ((s.log.length : Int) - 1) = (s.log.length : Int) - 1 := IntWalk.i64_in _ (by omega)
  unfold lastT
  generalize termAt s.log ((s.log.length : Int) - 1) = t at *
  generalize s.log.length = ll at *
  clear h3 hl
  have HLEN := Lib.hid hLen
  have HT := Lib.hid hT
  have C0 := Lib.hid c0
  clear hLen hT c0
  go_enter Try.func65, Try.ntmps65
  go_wp2_with fail
  go_region_held3 (fun V => V.cell? ⟨p, 0, none⟩ = some (.pointer (some ⟨j, 0, none⟩))) (exact C0.out _ (by repeat (first | assumption | exact Fr.refl _ _ | refine Fr.alloc ?_ _ | refine Fr.drew ?_ | refine Fr.drewN ?_ _))) (first
    | (go_at_call 64; refine (HLEN.out _ (by repeat (first | assumption | exact Fr.refl _ _ | refine Fr.alloc ?_ _ | refine Fr.drew ?_ | refine Fr.drewN ?_ _))).mono ?_; rintro e w1 ⟨rfl, rfl⟩)
    | (go_at_call 80; refine (HT.out _ (by repeat (first | assumption | exact Fr.refl _ _ | refine Fr.alloc ?_ _ | refine Fr.drew ?_ | refine Fr.drewN ?_ _))).mono ?_; rintro e w2 ⟨rfl, f2⟩; have Q2 : Fr No w w2 := Fr.transNo (by repeat (first | assumption | exact Fr.refl _ _ | refine Fr.alloc ?_ _ | refine Fr.drew ?_ | refine Fr.drewN ?_ _)) f2; clear f2))
  all_goals
    go_wp2_with fail
    go_ret
    exact ⟨rfl, (by repeat (first | assumption | exact Fr.refl _ _ | refine Fr.alloc ?_ _ | refine Fr.drew ?_ | refine Fr.drewN ?_ _))⟩
set_option maxHeartbeats 1000000 in
theorem p_message (h : RAt w F p r n) (kind dst : Int) : Calls Try.prog 63 #[.pointer (some ⟨p, 0, none⟩), .int .i64 kind, .int .i64 dst] w fun e w' => e = .returned (Ms.v ⟨kind, r.id, dst, r.js.term, 0, 0, 0, false, []⟩ (.slice none 0 0)) ∧ Fr No w w' := by
  have hTerm := fun W (hW : Fr No w W) => p_term (h.frNo hW).rj
  obtain ⟨j, Fj, bits, nx, mt, h1, -⟩ := h
  have c1 : ∀ W, Fr No w W → W.cell? ⟨p, 1, none⟩ = some (.int .i64 (r.id : Int)) := fun W hW => (h1.fr hW (fun h => h)).cell 1
  have hpl := h1.lt
  clear h1
  generalize r.js.term = t at *
  generalize (r.id : Int) = id at *
  have HTERM := Lib.hid hTerm
  have C1 := Lib.hid c1
  clear hTerm c1
  go_enter Try.func63, Try.ntmps63
  go_wp2_with fail
  go_region_held3 (fun V => V.cell? ⟨p, 1, none⟩ = some (.int .i64 id)) (exact C1.out _ (by repeat (first | assumption | exact Fr.refl _ _ | refine Fr.alloc ?_ _ | refine Fr.drew ?_ | refine Fr.drewN ?_ _))) (first
    | (go_at_call 38; refine (HTERM.out _ (by repeat (first | assumption | exact Fr.refl _ _ | refine Fr.alloc ?_ _ | refine Fr.drew ?_ | refine Fr.drewN ?_ _))).mono ?_; rintro e w1 ⟨rfl, rfl⟩))
  all_goals
    go_wp2_with fail
    exact bodyPost_ret (v := Ms.v ⟨kind, id, dst, t, 0, 0, 0, false, []⟩ (.slice none 0 0)) (message_results ⟨kind, id, dst, t, 0, 0, 0, false, []⟩ _ w.heap.size _ _ (Blk.new _ _ _) rfl) rfl ⟨rfl, (by repeat (first | assumption | exact Fr.refl _ _ | refine Fr.alloc ?_ _ | refine Fr.drew ?_ | refine Fr.drewN ?_ _))⟩
end
end Go.Proofs.Ytokblidfekbeeaa
