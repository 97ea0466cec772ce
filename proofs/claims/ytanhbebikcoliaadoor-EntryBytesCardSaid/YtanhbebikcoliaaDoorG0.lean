/-
  Several texts in one: WirP, EntP, IntP.
-/
/- The plain law of the wire's integers: which bytes an integer takes, what is read back from bytes. No program in sight. -/
namespace Go.Proofs.YtanhbebikcoliaaDoor

/-- The code of an integer. -/
def codeN (n : Int) : Nat := if 0 ≤ n then 2 * n.toNat else 2 * (-(n + 1)).toNat + 1
/-- The integer of a code. -/
def numN (u : Nat) : Int := if u % 2 = 0 then (u / 2 : Nat) else -((u / 2 : Nat) : Int) - 1

theorem numN_codeN (n : Int) : numN (codeN n) = n := by
  unfold numN codeN
  split <;> split <;> omega
theorem codeN_numN (u : Nat) : codeN (numN u) = u := by
  unfold numN codeN
  split <;> split <;> omega
theorem codeN_lt (n : Int) (h1 : -9223372036854775808 ≤ n) (h2 : n ≤ 9223372036854775807) : codeN n < 18446744073709551616 := by
  unfold codeN
  split <;> omega
theorem codeN_inj {n m : Int} (h : codeN n = codeN m) : n = m := by rw [← numN_codeN n, h, numN_codeN]

/-- The bytes of a code. -/
def encN (u : Nat) : List UInt8 := if h : u < 128 then [UInt8.ofNat u] else UInt8.ofNat (u % 128 + 128) :: encN (u / 128)
termination_by u
decreasing_by omega

theorem encN_lt (u : Nat) (h : u < 128) : encN u = [UInt8.ofNat u] := by rw [encN, dif_pos h]
theorem encN_ge (u : Nat) (h : ¬ u < 128) : encN u = UInt8.ofNat (u % 128 + 128) :: encN (u / 128) := by rw [encN, dif_neg h]
theorem encN_pos (u : Nat) : 1 ≤ (encN u).length := by
  rw [encN]
  split <;> simp

theorem encN_len : ∀ (k u : Nat), u < 128 ^ k → 0 < k → (encN u).length ≤ k := by
  intro k
  induction k with
  | zero => intro u _ h; omega
  | succ k ih =>
    intro u hu _
    by_cases h : u < 128
    · rw [encN_lt u h]; simp
    · rw [encN_ge u h, List.length_cons]
      have hk : 0 < k := by
        rcases Nat.eq_zero_or_pos k with rfl | hk
        · simp at hu; omega
        · exact hk
      have := ih (u / 128) (by rw [Nat.pow_succ] at hu; exact Nat.div_lt_of_lt_mul (by rw [Nat.mul_comm]; exact hu)) hk
      omega

theorem encN_len10 (u : Nat) (h : u < 18446744073709551616) : (encN u).length ≤ 10 := encN_len 10 u (by omega) (by omega)

theorem encN_one (u : Nat) : (encN u).length = 1 ↔ u < 128 := by
  by_cases h : u < 128
  · simp [encN_lt u h, h]
  · rw [encN_ge u h, List.length_cons]
    have := encN_pos (u / 128)
    constructor <;> intro <;> omega

/-- Of the bytes the last one alone is less than 128. -/
theorem encN_last' : ∀ (u : Nat) (l : List UInt8), l = encN u → ∀ (i : Nat) (h : i < l.length), (l[i].toNat < 128) ↔ i = l.length - 1 := by
  intro u
  induction u using Nat.strongRecOn with
  | ind u ih =>
    intro l hl i hi
    by_cases h : u < 128
    · rw [encN_lt u h] at hl
      subst hl
      simp only [List.length_singleton] at hi
      obtain rfl : i = 0 := by omega
      simp only [List.getElem_cons_zero, UInt8.toNat_ofNat']
      exact ⟨fun _ => rfl, fun _ => by omega⟩
    · rw [encN_ge u h] at hl
      subst hl
      simp only [List.length_cons] at hi ⊢
      have hp := encN_pos (u / 128)
      rcases i with _ | i
      · simp only [List.getElem_cons_zero, UInt8.toNat_ofNat']
        constructor <;> intro <;> omega
      · simp only [List.getElem_cons_succ]
        rw [ih (u / 128) (by omega) _ rfl i (by omega)]
        omega
theorem encN_last (u i : Nat) (h : i < (encN u).length) : ((encN u)[i].toNat < 128) ↔ i = (encN u).length - 1 := encN_last' u _ rfl i h

/-- The value of a row of groups of seven bits, the lowest first. -/
def valN : List UInt8 → Nat
  | [] => 0
  | x :: l => x.toNat % 128 + 128 * valN l

theorem valN_append (l m : List UInt8) : valN (l ++ m) = valN l + 128 ^ l.length * valN m := by
  induction l with
  | nil => simp [valN]
  | cons x l ih =>
    simp only [List.cons_append, valN, ih, List.length_cons, Nat.pow_succ]
    rw [Nat.mul_add, Nat.mul_comm (128 ^ l.length) 128, Nat.mul_assoc]
    omega
theorem valN_lt (l : List UInt8) : valN l < 128 ^ l.length := by
  induction l with
  | nil => simp [valN]
  | cons x l ih =>
    simp only [valN, List.length_cons, Nat.pow_succ]
    omega
theorem valN_encN (u : Nat) : valN (encN u) = u := by
  induction u using Nat.strongRecOn with
  | ind u ih =>
    by_cases h : u < 128
    · rw [encN_lt u h]
      simp only [valN, UInt8.toNat_ofNat']
      omega
    · rw [encN_ge u h]
      simp only [valN, UInt8.toNat_ofNat', ih (u / 128) (by omega)]
      omega

/-- What TakeInt returns: the integer, the number of its bytes, the error. -/
structure Tak where
  n : Int
  k : Nat
  e : Int
deriving DecidableEq

def Tak.short : Tak := ⟨0, 0, 17⟩
def Tak.corrupt : Tak := ⟨0, 0, 18⟩

/-- TakeInt from group k on; p: the bytes before; l: the bytes from k on. -/
def takF : Nat → List UInt8 → List UInt8 → Tak
  | 0, _, _ => .corrupt
  | _ + 1, _, [] => .short
  | f + 1, p, x :: l =>
    if x.toNat < 128 then
      if (0 < p.length ∧ x.toNat = 0) ∨ (p.length = 9 ∧ 1 < x.toNat) then .corrupt
      else ⟨numN (valN (p ++ [x])), p.length + 1, 0⟩
    else takF f (p ++ [x]) l

/-- What TakeInt returns of bytes. -/
def takN (l : List UInt8) : Tak := takF 10 [] l

theorem takF_enc : ∀ (u f : Nat) (p : List UInt8) (more : List UInt8), p.length + f = 10 → (encN u).length ≤ f → (0 < p.length → 0 < u) → u * 128 ^ p.length < 18446744073709551616 →
    takF f p (encN u ++ more) = ⟨numN (valN p + 128 ^ p.length * u), p.length + (encN u).length, 0⟩ := by
  intro u
  induction u using Nat.strongRecOn with
  | ind u ih =>
    intro f p more hf hl hp hlt
    by_cases h : u < 128
    · rw [encN_lt u h] at hl ⊢
      simp only [List.length_singleton] at hl
      obtain ⟨f, rfl⟩ : ∃ f', f = f' + 1 := ⟨f - 1, by omega⟩
      simp only [List.cons_append, List.nil_append, takF, UInt8.toNat_ofNat', List.length_singleton]
      have hm : u % 2 ^ 8 = u := by omega
      rw [hm, if_pos h, if_neg, valN_append]
      · simp only [valN, UInt8.toNat_ofNat', hm]
        rw [show u % 128 + 128 * 0 = u from by omega]
      · rintro (⟨h1, h2⟩ | ⟨h1, h2⟩)
        · have := hp h1; omega
        · rw [h1] at hlt; omega
    · rw [encN_ge u h] at hl ⊢
      simp only [List.length_cons] at hl
      obtain ⟨f, rfl⟩ : ∃ f', f = f' + 1 := ⟨f - 1, by omega⟩
      simp only [List.cons_append, takF, UInt8.toNat_ofNat', List.length_cons]
      have hm : (u % 128 + 128) % 2 ^ 8 = u % 128 + 128 := by omega
      rw [hm, if_neg (by omega)]
      have hlt' : u / 128 * 128 ^ (p.length + 1) < 18446744073709551616 := by
        rw [Nat.pow_succ]
        refine Nat.lt_of_le_of_lt ?_ hlt
        rw [Nat.mul_comm (128 ^ p.length) 128, ← Nat.mul_assoc]
        exact Nat.mul_le_mul_right _ (by omega)
      rw [ih (u / 128) (by omega) f (p ++ [UInt8.ofNat (u % 128 + 128)]) more (by simp; omega) (by omega) (fun _ => by omega) (by simpa using hlt')]
      simp only [List.length_append, List.length_singleton, valN_append, valN, UInt8.toNat_ofNat', hm]
      congr 1
      · congr 1
        rw [Nat.pow_succ, Nat.mul_assoc]
        rw [show (u % 128 + 128) % 128 + 128 * 0 = u % 128 from by omega, Nat.add_assoc, ← Nat.mul_add]
        congr 1
        congr 1
        omega
      · omega

/-- What was written is read back, whatever follows. -/
theorem takN_enc (n : Int) (h1 : -9223372036854775808 ≤ n) (h2 : n ≤ 9223372036854775807) (more : List UInt8) :
    takN (encN (codeN n) ++ more) = ⟨n, (encN (codeN n)).length, 0⟩ := by
  have hc := codeN_lt n h1 h2
  unfold takN
  rw [takF_enc (codeN n) 10 [] more rfl (encN_len10 _ hc) (fun h => by simp at h) (by simpa using hc)]
  simp [valN, numN_codeN]

/-- What TakeInt takes was written. -/
theorem takF_ok : ∀ (f : Nat) (p l : List UInt8), p.length + f = 10 → (takF f p l).e = 0 →
    ∃ u, (0 < p.length → 0 < u) ∧ u * 128 ^ p.length < 18446744073709551616 ∧ (takF f p l).k = p.length + (encN u).length ∧ (encN u).length ≤ l.length ∧ l.take (encN u).length = encN u ∧ (takF f p l).n = numN (valN p + 128 ^ p.length * u) := by
  intro f
  induction f with
  | zero => intro p l _ h; simp [takF, Tak.corrupt] at h
  | succ f ih =>
    intro p l hf h
    rcases l with _ | ⟨x, l⟩
    · simp [takF, Tak.short] at h
    · by_cases hx : x.toNat < 128
      · simp only [takF, if_pos hx] at h ⊢
        by_cases hb : (0 < p.length ∧ x.toNat = 0) ∨ (p.length = 9 ∧ 1 < x.toNat)
        · rw [if_pos hb] at h; simp [Tak.corrupt] at h
        · rw [if_neg hb] at h ⊢
          have he : encN x.toNat = [x] := by rw [encN_lt _ hx]; simp
          refine ⟨x.toNat, fun hp => ?_, ?_, by rw [he]; rfl, by rw [he]; simp, by rw [he]; simp, ?_⟩
          · rcases Nat.eq_zero_or_pos x.toNat with h0 | h0
            · exact absurd (.inl ⟨hp, h0⟩) hb
            · exact h0
          · by_cases h9 : p.length = 9
            · have : x.toNat ≤ 1 := by
                rcases Nat.lt_or_ge 1 x.toNat with h1 | h1
                · exact absurd (.inr ⟨h9, h1⟩) hb
                · exact h1
              rw [h9]
              have : x.toNat * 128 ^ 9 ≤ 1 * 128 ^ 9 := Nat.mul_le_mul_right _ this
              omega
            · have hle : 128 ^ p.length ≤ 128 ^ 8 := Nat.pow_le_pow_right (by omega) (by omega)
              have : x.toNat * 128 ^ p.length ≤ 127 * 128 ^ 8 := Nat.mul_le_mul (by omega) hle
              omega
          · simp only [valN_append, valN]
            rw [show x.toNat % 128 + 128 * 0 = x.toNat from by omega]
      · simp only [takF, if_neg hx] at h ⊢
        obtain ⟨u, h1, h2, h3, h4, h5, h6⟩ := ih (p ++ [x]) l (by simp; omega) h
        simp only [List.length_append, List.length_singleton] at h1 h2 h3 h6
        have hu : 0 < u := h1 (by omega)
        have hx' : x.toNat < 256 := x.toNat_lt
        have hw : ¬ (x.toNat % 128 + 128 * u) < 128 := by omega
        have he : encN (x.toNat % 128 + 128 * u) = x :: encN u := by
          rw [encN_ge _ hw]
          rw [show (x.toNat % 128 + 128 * u) % 128 + 128 = x.toNat from by omega, show (x.toNat % 128 + 128 * u) / 128 = u from by omega]
          simp
        refine ⟨x.toNat % 128 + 128 * u, fun _ => by omega, ?_, by rw [he, h3, List.length_cons]; omega, by rw [he]; simp; omega, by rw [he]; simpa using h5, ?_⟩
        · rw [Nat.pow_succ] at h2
          by_cases h9 : p.length = 9
          · rw [h9] at h2; omega
          · have hle : 128 ^ (p.length + 1) * 128 ^ (9 - (p.length + 1)) = 128 ^ 9 := by rw [← Nat.pow_add]; congr 1; omega
            have hp1 : 0 < 128 ^ (9 - (p.length + 1)) := Nat.pow_pos (by omega)
            have e1 : u * (128 ^ p.length * 128) = (128 * u) * 128 ^ p.length := by
              rw [Nat.mul_comm (128 ^ p.length) 128, ← Nat.mul_assoc, Nat.mul_comm u 128]
            rw [e1] at h2
            have h128 : 18446744073709551616 = 2 * 128 ^ 9 := by decide
            have hdiv : 128 ^ 9 = 128 ^ p.length * (128 * 128 ^ (9 - (p.length + 1))) := by
              rw [← Nat.mul_assoc, ← Nat.pow_succ]; exact hle.symm
            generalize 128 ^ (9 - (p.length + 1)) = q at *
            generalize 128 ^ p.length = r at *
            have h3' : 128 * u * r < (2 * (128 * q)) * r := by
              rw [show 2 * (128 * q) * r = 2 * (r * (128 * q)) from by rw [Nat.mul_assoc, Nat.mul_comm (128 * q) r], ← hdiv, ← h128]; exact h2
            have h4' : 128 * u < 2 * (128 * q) := Nat.lt_of_mul_lt_mul_right h3'
            have h5' : x.toNat % 128 + 128 * u < 2 * (128 * q) := by omega
            have hr : 0 < r := by
              rcases Nat.eq_zero_or_pos r with rfl | hr
              · simp at hdiv
              · exact hr
            calc (x.toNat % 128 + 128 * u) * r < (2 * (128 * q)) * r := Nat.mul_lt_mul_of_pos_right h5' hr
              _ = 18446744073709551616 := by rw [h128, hdiv, Nat.mul_comm r, Nat.mul_assoc]
        · rw [h6]
          congr 1
          rw [valN_append, Nat.pow_succ]
          simp only [valN]
          generalize 128 ^ p.length = r
          rw [Nat.mul_add r (x.toNat % 128) (128 * u), Nat.mul_assoc, show x.toNat % 128 + 128 * 0 = x.toNat % 128 from by omega]
          omega

theorem takN_ok (l : List UInt8) (h : (takN l).e = 0) :
    ∃ n : Int, -9223372036854775808 ≤ n ∧ n ≤ 9223372036854775807 ∧ (takN l).n = n ∧ (takN l).k = (encN (codeN n)).length ∧ (encN (codeN n)).length ≤ l.length ∧ l.take (encN (codeN n)).length = encN (codeN n) := by
  obtain ⟨u, _, h2, h3, h4, h5, h6⟩ := takF_ok 10 [] l rfl h
  simp only [List.length_nil, Nat.pow_zero, Nat.mul_one, valN, Nat.zero_add, Nat.one_mul] at h2 h3 h6
  refine ⟨numN u, ?_, ?_, h6, by rw [codeN_numN]; exact h3, by rw [codeN_numN]; exact h4, by rw [codeN_numN]; exact h5⟩
  · unfold numN; split <;> omega
  · unfold numN; split <;> omega

theorem takF_err : ∀ (f : Nat) (p l : List UInt8), (takF f p l).e = 0 ∨ takF f p l = .short ∨ takF f p l = .corrupt := by
  intro f
  induction f with
  | zero => intro p l; exact .inr (.inr rfl)
  | succ f ih =>
    intro p l
    rcases l with _ | ⟨x, l⟩
    · exact .inr (.inl rfl)
    · simp only [takF]
      split
      · split
        · exact .inr (.inr rfl)
        · exact .inl rfl
      · exact ih _ _

end Go.Proofs.YtanhbebikcoliaaDoor
/- The plain law of entries: which entries have the right shape, which bytes they have. No program in sight. -/
namespace Go.Proofs.YtanhbebikcoliaaDoor

/-- An entry. -/
structure En where
  kind : Int
  tick : Int
  tenant : Int
  cell : Int
  other : Int
  epoch : Int
  from_ : Int
  until_ : Int
  n : Int
deriving DecidableEq

/-- An entry's numbers. -/
def En.l (e : En) : List Int := [e.kind, e.tick, e.tenant, e.cell, e.other, e.epoch, e.from_, e.until_, e.n]
theorem En.l_len (e : En) : e.l.length = 9 := rfl
theorem En.l_inj {e f : En} (h : e.l = f.l) : e = f := by
  cases e; cases f
  simpa [En.l] using h
/-- An entry of nine numbers. -/
def En.of (l : List Int) : En := ⟨l.getD 0 0, l.getD 1 0, l.getD 2 0, l.getD 3 0, l.getD 4 0, l.getD 5 0, l.getD 6 0, l.getD 7 0, l.getD 8 0⟩
theorem En.of_l (e : En) : En.of e.l = e := by cases e; rfl
theorem En.l_of {l : List Int} (h : l.length = 9) : (En.of l).l = l := by
  match l, h with
  | [_, _, _, _, _, _, _, _, _], _ => rfl

/-- All numbers of an entry are 64-bit integers. -/
def En.ok (e : En) : Prop := ∀ x ∈ e.l, -9223372036854775808 ≤ x ∧ x ≤ 9223372036854775807
instance (e : En) : Decidable e.ok := by unfold En.ok; infer_instance

/-- n lies from a to b. -/
def inB (a b n : Int) : Bool := decide (a ≤ n) && decide (n ≤ b)

/-- A range. -/
structure Sp where
  lo : Int
  hi : Int
def Sp.has (s : Sp) (n : Int) : Bool := inB s.lo s.hi n
/-- The ranges of a kind's fields. -/
structure Fm where
  tenant : Sp
  cell : Sp
  other : Sp
  epoch : Sp
  ticks : Sp
  n : Sp
abbrev spNone : Sp := ⟨-1, -1⟩
abbrev spZero : Sp := ⟨0, 0⟩
/-- The form of a kind. -/
def formN (k nt nc nr nv : Int) : Fm :=
  if k = 1 then ⟨⟨0, nt - 1⟩, ⟨0, nc - 1⟩, ⟨-1, nc - 1⟩, spZero, spZero, spZero⟩
  else if k = 2 then ⟨⟨0, nt - 1⟩, ⟨0, nc - 1⟩, spNone, ⟨1, 1048576⟩, ⟨0, 1073741824⟩, ⟨0, nv - 1⟩⟩
  else if k = 3 then ⟨⟨0, nt - 1⟩, spNone, spNone, ⟨1, 1048576⟩, spZero, spZero⟩
  else if k = 4 then ⟨⟨0, nt - 1⟩, ⟨-1, nc - 1⟩, spNone, spZero, spZero, spZero⟩
  else if k = 5 ∨ k = 6 then ⟨⟨0, nt - 1⟩, ⟨0, nc - 1⟩, spNone, spZero, spZero, spZero⟩
  else if k = 7 then ⟨⟨0, nt - 1⟩, spNone, spNone, spZero, spZero, spZero⟩
  else if k = 8 then ⟨⟨0, nt - 1⟩, spNone, spNone, spZero, spZero, ⟨0, 1⟩⟩
  else if k = 9 then ⟨spNone, ⟨0, nc - 1⟩, spNone, spZero, spZero, ⟨1, 3⟩⟩
  else if k = 10 ∨ k = 11 then ⟨spNone, ⟨0, nc - 1⟩, spNone, spZero, spZero, ⟨0, nv - 1⟩⟩
  else if k = 12 then ⟨spNone, spNone, spNone, spZero, spZero, ⟨0, nv - 1⟩⟩
  else if k = 13 then ⟨spNone, spNone, ⟨0, nr - 1⟩, spZero, spZero, ⟨0, 1⟩⟩
  else if k = 14 ∨ k = 15 then ⟨spNone, spNone, spNone, spZero, spZero, spZero⟩
  else ⟨spNone, spNone, spNone, spZero, spZero, ⟨0, 1073741824⟩⟩

/-- The fields of an entry are as its kind says, for so many tenants, cells, regions and versions. -/
def fitsB (e : En) (nt nc nr nv : Int) : Bool :=
  inB 1 16 e.kind && !(decide (e.kind = 1) && decide (e.other = e.cell)) && inB 0 1073741824 e.tick &&
  (formN e.kind nt nc nr nv).tenant.has e.tenant && (formN e.kind nt nc nr nv).cell.has e.cell && (formN e.kind nt nc nr nv).other.has e.other &&
  (formN e.kind nt nc nr nv).epoch.has e.epoch && (formN e.kind nt nc nr nv).ticks.has e.from_ && (formN e.kind nt nc nr nv).ticks.has e.until_ && (formN e.kind nt nc nr nv).n.has e.n

/-- The right shape. -/
def shapeB (e : En) : Bool := fitsB e 32 16 4 30

/-- What a kind uses, as the reference says it: tenant, cell, cell or none, other cell, region, epoch, window, version, bit, mode, number. -/
def usesN (k : Int) : List UInt8 :=
  if k = 1 then [116, 99, 111] else if k = 2 then [116, 99, 101, 119, 118] else if k = 3 then [116, 101] else if k = 4 then [116, 67] else if k = 5 then [116, 99] else if k = 6 then [116, 99]
  else if k = 7 then [116] else if k = 8 then [116, 98] else if k = 9 then [99, 109] else if k = 10 then [99, 118] else if k = 11 then [99, 118] else if k = 12 then [118] else if k = 13 then [114, 98]
  else if k = 14 then [] else if k = 15 then [] else if k = 16 then [110] else [63]
def hasN (k : Int) (c : UInt8) : Bool := (usesN k).contains c

def placesB (e : En) (nt nc nr : Int) : Bool :=
  if hasN e.kind 116 != (e.tenant != -1) || hasN e.kind 116 && !inB 0 (nt - 1) e.tenant then false
  else if hasN e.kind 99 && !inB 0 (nc - 1) e.cell || hasN e.kind 67 && !inB (-1) (nc - 1) e.cell || !hasN e.kind 99 && !hasN e.kind 67 && e.cell != -1 then false
  else if hasN e.kind 111 && (!inB (-1) (nc - 1) e.other || e.other == e.cell) || hasN e.kind 114 && !inB 0 (nr - 1) e.other || !hasN e.kind 111 && !hasN e.kind 114 && e.other != -1 then false
  else true
def numbersB (e : En) (nv : Int) : Bool :=
  if hasN e.kind 101 && !inB 1 1048576 e.epoch || !hasN e.kind 101 && e.epoch != 0 then false
  else if hasN e.kind 119 && (!inB 0 1073741824 e.from_ || !inB 0 1073741824 e.until_) || !hasN e.kind 119 && (e.from_ != 0 || e.until_ != 0) then false
  else if hasN e.kind 118 then inB 0 (nv - 1) e.n
  else if hasN e.kind 98 then inB 0 1 e.n
  else if hasN e.kind 109 then inB 1 3 e.n
  else if hasN e.kind 110 then inB 0 1073741824 e.n
  else e.n == 0
def rightB (e : En) (nt nc nr nv : Int) : Bool := inB 1 16 e.kind && inB 0 1073741824 e.tick && placesB e nt nc nr && numbersB e nv

theorem inB_zero (n : Int) : inB 0 0 n = (n == 0) := by
  unfold inB
  rw [Bool.eq_iff_iff]
  simp
  omega
theorem inB_none (n : Int) : inB (-1) (-1) n = (n == -1) := by
  unfold inB
  rw [Bool.eq_iff_iff]
  simp
  omega

/-- The program's forms say what the reference's words say. -/
theorem fitsB_eq (e : En) (nt nc nr nv : Int) : fitsB e nt nc nr nv = rightB e nt nc nr nv := by
  obtain ⟨k, tick, te, ce, ot, ep, fr, un, n⟩ := e
  by_cases hk : 1 ≤ k ∧ k ≤ 16
  · obtain ⟨h1, h2⟩ := hk
    have hcases : k = 1 ∨ k = 2 ∨ k = 3 ∨ k = 4 ∨ k = 5 ∨ k = 6 ∨ k = 7 ∨ k = 8 ∨ k = 9 ∨ k = 10 ∨ k = 11 ∨ k = 12 ∨ k = 13 ∨ k = 14 ∨ k = 15 ∨ k = 16 := by omega
    clear h1 h2
    rcases hcases with rfl | rfl | rfl | rfl | rfl | rfl | rfl | rfl | rfl | rfl | rfl | rfl | rfl | rfl | rfl | rfl
    all_goals
      simp only [fitsB, rightB, placesB, numbersB, formN, hasN, usesN, Sp.has, inB, spNone, spZero]
      rw [Bool.eq_iff_iff]
      simp
      omega
  · simp only [fitsB, rightB]
    have : inB 1 16 k = false := by unfold inB; simp; omega
    rw [this]
    rfl

theorem fits_shape (e : En) (nt nc nr nv : Int) : (shapeB e && fitsB e nt nc nr nv) = rightB e (min nt 32) (min nc 16) (min nr 4) (min nv 30) := by
  unfold shapeB
  rw [← fitsB_eq]
  obtain ⟨k, tick, te, ce, ot, ep, fr, un, n⟩ := e
  by_cases hk : 1 ≤ k ∧ k ≤ 16
  · obtain ⟨h1, h2⟩ := hk
    have hcases : k = 1 ∨ k = 2 ∨ k = 3 ∨ k = 4 ∨ k = 5 ∨ k = 6 ∨ k = 7 ∨ k = 8 ∨ k = 9 ∨ k = 10 ∨ k = 11 ∨ k = 12 ∨ k = 13 ∨ k = 14 ∨ k = 15 ∨ k = 16 := by omega
    clear h1 h2
    rcases hcases with rfl | rfl | rfl | rfl | rfl | rfl | rfl | rfl | rfl | rfl | rfl | rfl | rfl | rfl | rfl | rfl
    all_goals
      simp only [fitsB, formN, Sp.has, inB, spNone, spZero]
      rw [Bool.eq_iff_iff]
      simp <;> omega
  · simp only [fitsB]
    have : inB 1 16 k = false := by unfold inB; simp; omega
    rw [this]
    rfl
end Go.Proofs.YtanhbebikcoliaaDoor
/- The bytes of a list of integers, and how they are read. No program in sight. -/
namespace Go.Proofs.YtanhbebikcoliaaDoor

/-- The bytes of a list of integers, without its length. -/
def intsF (l : List Int) : List UInt8 := l.flatMap fun n => encN (codeN n)
theorem intsF_snoc (l : List Int) (n : Int) : intsF (l ++ [n]) = intsF l ++ encN (codeN n) := by simp [intsF]
theorem intsF_len (l : List Int) (h : ∀ n ∈ l, -9223372036854775808 ≤ n ∧ n ≤ 9223372036854775807) : (intsF l).length ≤ 10 * l.length := by
  induction l with
  | nil => simp [intsF]
  | cons n l ih =>
    have h1 := encN_len10 _ (codeN_lt n (h n (by simp)).1 (h n (by simp)).2)
    have h2 := ih fun m hm => h m (by simp [hm])
    simp only [intsF, List.flatMap_cons, List.length_append, List.length_cons] at *
    omega

theorem takN_k (l : List UInt8) (h : (takN l).e = 0) : (takN l).k ≤ l.length := by
  obtain ⟨n, _, _, _, h4, h5, _⟩ := takN_ok l h
  omega
/-- What TakeInts returns. -/
structure IntsT where
  q : List Int
  k : Nat
  e : Int
def intsG : Nat → List UInt8 → Nat → List Int → IntsT
  | 0, _, p, acc => ⟨acc, p, 0⟩
  | f + 1, l, p, acc => if (takN (l.drop p)).e = 0 then intsG f l (p + (takN (l.drop p)).k) (acc ++ [(takN (l.drop p)).n]) else ⟨[], 0, (takN (l.drop p)).e⟩

theorem intsG_back : ∀ (q : List Int) (p more : List UInt8) (acc : List Int), (∀ n ∈ q, -9223372036854775808 ≤ n ∧ n ≤ 9223372036854775807) →
    intsG q.length (p ++ (intsF q ++ more)) p.length acc = ⟨acc ++ q, p.length + (intsF q).length, 0⟩ := by
  intro q
  induction q with
  | nil => intro p more acc _; simp [intsG, intsF]
  | cons n q ih =>
    intro p more acc hb
    have e1 : intsF (n :: q) = encN (codeN n) ++ intsF q := by simp [intsF]
    simp only [List.length_cons, intsG]
    rw [List.drop_left' rfl, e1, List.append_assoc, takN_enc n (hb n (by simp)).1 (hb n (by simp)).2]
    simp only [if_true]
    have := ih (p ++ encN (codeN n)) more (acc ++ [n]) (fun m hm => hb m (by simp [hm]))
    rw [List.length_append, List.append_assoc] at this
    rw [this]
    simp only [List.append_assoc, List.cons_append, List.nil_append, List.length_append]
    congr 1
    omega

/-- Lists of one length with the same bytes are equal. -/
theorem intsF_inj {a b : List Int} (hl : a.length = b.length) (ha : ∀ n ∈ a, -9223372036854775808 ≤ n ∧ n ≤ 9223372036854775807) (hb : ∀ n ∈ b, -9223372036854775808 ≤ n ∧ n ≤ 9223372036854775807) (h : intsF a = intsF b) : a = b := by
  have h1 := intsG_back a [] [] [] ha
  have h2 := intsG_back b [] [] [] hb
  rw [h, hl, h2] at h1
  injection h1 with h1
  simpa using h1.symm
end Go.Proofs.YtanhbebikcoliaaDoor
