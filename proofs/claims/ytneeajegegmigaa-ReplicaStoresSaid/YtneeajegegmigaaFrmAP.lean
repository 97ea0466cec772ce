/-
  The plain law of rows of frames: what All returns. No program in sight.
-/
import Derived.Test.YtneeajegegmigaaFrmP
namespace Go.Proofs.Ytneeajegegmigaa

theorem putN_lenP (key : Int) (p : List UInt8) (h : p.length ≤ 65536) : 9 + p.length ≤ (putN key p).length ∧ (putN key p).length ≤ 18 + p.length := by
  have h1 := encN_pos (codeN (p.length : Int))
  have h2 := encN_len10 _ (codeN_lt (p.length : Int) (by omega) (by omega))
  unfold putN
  rw [if_pos h]
  unfold headN
  rw [List.length_append, List.length_append, leN_length]
  omega

theorem le8_back (s : List UInt8) (hs : s.length = 8) : leN 8 (unleN s) = s := by
  have h1 := unleN_lt s
  rw [hs] at h1
  refine unleN_inj _ _ (by rw [leN_length, hs]) ?_
  rw [unleN_leN, Nat.mod_eq_of_lt h1]

/-- What Take accepts is a frame. -/
theorem takeFr_ok (key : Int) (l : List UInt8) (h : (takeFr key l).e = 0) :
    (takeFr key l).p.length ≤ 65536 ∧ (takeFr key l).k = (putN key (takeFr key l).p).length ∧ (takeFr key l).k ≤ l.length ∧ l.take (takeFr key l).k = putN key (takeFr key l).p := by
  unfold takeFr at h ⊢
  by_cases h1 : (takN l).e = 0
  · have c1 : ¬ (takN l).e ≠ 0 := fun hn => hn h1
    rw [if_neg c1] at h ⊢
    by_cases h2 : (takN l).n < 0
    · rw [if_pos h2] at h; simp [frmE] at h
    · rw [if_neg h2] at h ⊢
      by_cases h3 : 65536 < (takN l).n
      · rw [if_pos h3] at h; simp [frmE] at h
      · rw [if_neg h3] at h ⊢
        by_cases h4 : (l.length : Int) - (takN l).k < 8 + (takN l).n
        · rw [if_pos h4] at h; simp [frmE] at h
        · rw [if_neg h4] at h ⊢
          by_cases h5 : (unleN ((l.drop (takN l).k).take 8) : Int) ≠ sumI key ((l.drop ((takN l).k + 8)).take (takN l).n.toNat)
          · rw [if_pos h5] at h; simp [frmE] at h
          · rw [if_neg h5] at h ⊢
            simp only [Decidable.not_not] at h5
            obtain ⟨n, g1, g2, g3, g4, g5, g6⟩ := takN_ok l h1
            rw [g3] at h2 h3 h4 h5 ⊢
            rw [g4] at h4 h5 ⊢
            obtain ⟨m, rfl⟩ : ∃ m : Nat, n = (m : Int) := ⟨n.toNat, by omega⟩
            simp only [Int.toNat_natCast] at h5 ⊢
            generalize hen : encN (codeN (m : Int)) = en at *
            have hpl : ((l.drop (en.length + 8)).take m).length = m := by rw [List.length_take, List.length_drop]; omega
            have h8 : ((l.drop en.length).take 8).length = 8 := by rw [List.length_take, List.length_drop]; omega
            have hput : putN key ((l.drop (en.length + 8)).take m) = l.take (en.length + 8 + m) := by
              unfold putN headN
              rw [hpl, if_pos (by omega), hen, ← h5, Int.toNat_natCast, le8_back _ h8]
              rw [← g6, List.length_take, Nat.min_eq_left g5]
              rw [List.take_add, List.take_add]
            refine ⟨by rw [hpl]; omega, ?_, by omega, hput.symm⟩
            rw [hput, List.length_take]
            omega
  · rw [if_pos h1] at h
    exact absurd h h1

/-- The frames that bytes begin with, from place p on. -/
structure AllT where
  r : List (List UInt8)
  k : Nat
def allG (key : Int) : Nat → List UInt8 → Nat → List (List UInt8) → AllT
  | 0, _, p, acc => ⟨acc, p⟩
  | f + 1, l, p, acc => if p < l.length then (if (takeFr key (l.drop p)).e = 0 then allG key f l (p + (takeFr key (l.drop p)).k) (acc ++ [(takeFr key (l.drop p)).p]) else ⟨acc, p⟩) else ⟨acc, p⟩
def allT (key : Int) (l : List UInt8) : AllT := allG key (l.length + 1) l 0 []

theorem takeFr_k (key : Int) (l : List UInt8) (h : (takeFr key l).e = 0) : 9 ≤ (takeFr key l).k ∧ (takeFr key l).k ≤ l.length := by
  obtain ⟨h1, h2, h3, _⟩ := takeFr_ok key l h
  have := putN_lenP key _ h1
  omega

/-- More fuel changes nothing. -/
theorem allG_fuel (key : Int) (l : List UInt8) : ∀ (f p : Nat) (acc : List (List UInt8)), l.length < f + p → allG key f l p acc = allG key (f + 1) l p acc := by
  intro f
  induction f with
  | zero => intro p acc h; simp only [allG]; rw [if_neg (by omega)]
  | succ f ih =>
    intro p acc h
    rw [allG, allG]
    by_cases h1 : p < l.length
    · rw [if_pos h1, if_pos h1]
      by_cases h2 : (takeFr key (l.drop p)).e = 0
      · rw [if_pos h2, if_pos h2]
        have := takeFr_k key _ h2
        exact ih _ _ (by omega)
      · rw [if_neg h2, if_neg h2]
    · rw [if_neg h1, if_neg h1]

/-- The frames of records. -/
def frames (key : Int) (rs : List (List UInt8)) : List UInt8 := rs.flatMap (putN key)
theorem frames_cons (key : Int) (r : List UInt8) (rs : List (List UInt8)) : frames key (r :: rs) = putN key r ++ frames key rs := by simp [frames]
theorem frames_append (key : Int) (rs qs : List (List UInt8)) : frames key (rs ++ qs) = frames key rs ++ frames key qs := by simp [frames]

/-- Records that were put one after the other are read back, whatever follows that is no frame. -/
theorem allG_frames (key : Int) : ∀ (rs : List (List UInt8)) (pre more : List UInt8) (f : Nat) (acc : List (List UInt8)), (∀ r ∈ rs, r.length ≤ 65536) → (pre ++ (frames key rs ++ more)).length < f + pre.length → (more = [] ∨ (takeFr key more).e ≠ 0) →
    allG key f (pre ++ (frames key rs ++ more)) pre.length acc = ⟨acc ++ rs, pre.length + (frames key rs).length⟩ := by
  intro rs
  induction rs with
  | nil =>
    intro pre more f acc _ hf hm
    rcases f with _ | f
    · simp [allG, frames]
    · simp only [allG, frames, List.flatMap_nil, List.nil_append, List.append_nil, List.length_nil, Nat.add_zero]
      rcases hm with rfl | hm
      · rw [if_neg (by simp)]
      · by_cases h0 : pre.length < (pre ++ more).length
        · rw [if_pos h0, List.drop_left' rfl, if_neg hm]
        · rw [if_neg h0]
  | cons r rs ih =>
    intro pre more f acc hr hf hm
    have hr1 := hr r (by simp)
    have hl := putN_lenP key r hr1
    rw [frames_cons] at hf ⊢
    simp only [List.length_append] at hf
    obtain ⟨f, rfl⟩ : ∃ f', f = f' + 1 := ⟨f - 1, by omega⟩
    rw [allG, if_pos (by simp only [List.length_append]; omega), List.drop_left' rfl, List.append_assoc, takeFr_put key r _ hr1]
    simp only [if_true]
    have := ih (pre ++ putN key r) more f (acc ++ [r]) (fun x hx => hr x (by simp [hx])) (by simp only [List.length_append]; omega) hm
    rw [List.length_append, List.append_assoc] at this
    rw [this]
    simp only [List.append_assoc, List.cons_append, List.nil_append, List.length_append]
    congr 1
    omega

theorem allT_frames (key : Int) (rs : List (List UInt8)) (more : List UInt8) (hr : ∀ r ∈ rs, r.length ≤ 65536) (hm : more = [] ∨ (takeFr key more).e ≠ 0) : allT key (frames key rs ++ more) = ⟨rs, (frames key rs).length⟩ := by
  have := allG_frames key rs [] more ((frames key rs ++ more).length + 1) [] hr (by simp) hm
  simpa [allT] using this
end Go.Proofs.Ytneeajegegmigaa
