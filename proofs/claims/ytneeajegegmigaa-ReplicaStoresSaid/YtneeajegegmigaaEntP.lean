/-
  The plain law of entries: which entries have the right shape, which bytes they have. No program in sight.
-/
import Derived.Test.YtneeajegegmigaaWirP
namespace Go.Proofs.Ytneeajegegmigaa

/-- An entry. -/
structure En where
  kind : Int
  tick : Int
  tenant : Int
  cell : Int
  other : Int
  epoch : Int
  from_ : Int
  until_ : Int
  n : Int
deriving DecidableEq

/-- An entry's numbers. -/
def En.l (e : En) : List Int := [e.kind, e.tick, e.tenant, e.cell, e.other, e.epoch, e.from_, e.until_, e.n]
theorem En.l_len (e : En) : e.l.length = 9 := rfl
theorem En.l_inj {e f : En} (h : e.l = f.l) : e = f := by
  cases e; cases f
  simpa [En.l] using h
/-- An entry of nine numbers. -/
def En.of (l : List Int) : En := ⟨l.getD 0 0, l.getD 1 0, l.getD 2 0, l.getD 3 0, l.getD 4 0, l.getD 5 0, l.getD 6 0, l.getD 7 0, l.getD 8 0⟩
theorem En.of_l (e : En) : En.of e.l = e := by cases e; rfl
theorem En.l_of {l : List Int} (h : l.length = 9) : (En.of l).l = l := by
  match l, h with
  | [_, _, _, _, _, _, _, _, _], _ => rfl

/-- All numbers of an entry are 64-bit integers. -/
def En.ok (e : En) : Prop := ∀ x ∈ e.l, -9223372036854775808 ≤ x ∧ x ≤ 9223372036854775807
instance (e : En) : Decidable e.ok := by unfold En.ok; infer_instance

/-- n lies from a to b. -/
def inB (a b n : Int) : Bool := decide (a ≤ n) && decide (n ≤ b)

/-- A range. -/
structure Sp where
  lo : Int
  hi : Int
def Sp.has (s : Sp) (n : Int) : Bool := inB s.lo s.hi n
/-- The ranges of a kind's fields. -/
structure Fm where
  tenant : Sp
  cell : Sp
  other : Sp
  epoch : Sp
  ticks : Sp
  n : Sp
abbrev spNone : Sp := ⟨-1, -1⟩
abbrev spZero : Sp := ⟨0, 0⟩
/-- The form of a kind. -/
def formN (k nt nc nr nv : Int) : Fm :=
  if k = 1 then ⟨⟨0, nt - 1⟩, ⟨0, nc - 1⟩, ⟨-1, nc - 1⟩, spZero, spZero, spZero⟩
  else if k = 2 then ⟨⟨0, nt - 1⟩, ⟨0, nc - 1⟩, spNone, ⟨1, 1048576⟩, ⟨0, 1073741824⟩, ⟨0, nv - 1⟩⟩
  else if k = 3 then ⟨⟨0, nt - 1⟩, spNone, spNone, ⟨1, 1048576⟩, spZero, spZero⟩
  else if k = 4 then ⟨⟨0, nt - 1⟩, ⟨-1, nc - 1⟩, spNone, spZero, spZero, spZero⟩
  else if k = 5 ∨ k = 6 then ⟨⟨0, nt - 1⟩, ⟨0, nc - 1⟩, spNone, spZero, spZero, spZero⟩
  else if k = 7 then ⟨⟨0, nt - 1⟩, spNone, spNone, spZero, spZero, spZero⟩
  else if k = 8 then ⟨⟨0, nt - 1⟩, spNone, spNone, spZero, spZero, ⟨0, 1⟩⟩
  else if k = 9 then ⟨spNone, ⟨0, nc - 1⟩, spNone, spZero, spZero, ⟨1, 3⟩⟩
  else if k = 10 ∨ k = 11 then ⟨spNone, ⟨0, nc - 1⟩, spNone, spZero, spZero, ⟨0, nv - 1⟩⟩
  else if k = 12 then ⟨spNone, spNone, spNone, spZero, spZero, ⟨0, nv - 1⟩⟩
  else if k = 13 then ⟨spNone, spNone, ⟨0, nr - 1⟩, spZero, spZero, ⟨0, 1⟩⟩
  else if k = 14 ∨ k = 15 then ⟨spNone, spNone, spNone, spZero, spZero, spZero⟩
  else ⟨spNone, spNone, spNone, spZero, spZero, ⟨0, 1073741824⟩⟩

/-- The fields of an entry are as its kind says, for so many tenants, cells, regions and versions. -/
def fitsB (e : En) (nt nc nr nv : Int) : Bool :=
  inB 1 16 e.kind && !(decide (e.kind = 1) && decide (e.other = e.cell)) && inB 0 1073741824 e.tick &&
  (formN e.kind nt nc nr nv).tenant.has e.tenant && (formN e.kind nt nc nr nv).cell.has e.cell && (formN e.kind nt nc nr nv).other.has e.other &&
  (formN e.kind nt nc nr nv).epoch.has e.epoch && (formN e.kind nt nc nr nv).ticks.has e.from_ && (formN e.kind nt nc nr nv).ticks.has e.until_ && (formN e.kind nt nc nr nv).n.has e.n

/-- The right shape. -/
def shapeB (e : En) : Bool := fitsB e 32 16 4 30

/-- What a kind uses, as the reference says it: tenant, cell, cell or none, other cell, region, epoch, window, version, bit, mode, number. -/
def usesN (k : Int) : List UInt8 :=
  if k = 1 then [116, 99, 111] else if k = 2 then [116, 99, 101, 119, 118] else if k = 3 then [116, 101] else if k = 4 then [116, 67] else if k = 5 then [116, 99] else if k = 6 then [116, 99]
  else if k = 7 then [116] else if k = 8 then [116, 98] else if k = 9 then [99, 109] else if k = 10 then [99, 118] else if k = 11 then [99, 118] else if k = 12 then [118] else if k = 13 then [114, 98]
  else if k = 14 then [] else if k = 15 then [] else if k = 16 then [110] else [63]
def hasN (k : Int) (c : UInt8) : Bool := (usesN k).contains c

def placesB (e : En) (nt nc nr : Int) : Bool :=
  if hasN e.kind 116 != (e.tenant != -1) || hasN e.kind 116 && !inB 0 (nt - 1) e.tenant then false
  else if hasN e.kind 99 && !inB 0 (nc - 1) e.cell || hasN e.kind 67 && !inB (-1) (nc - 1) e.cell || !hasN e.kind 99 && !hasN e.kind 67 && e.cell != -1 then false
  else if hasN e.kind 111 && (!inB (-1) (nc - 1) e.other || e.other == e.cell) || hasN e.kind 114 && !inB 0 (nr - 1) e.other || !hasN e.kind 111 && !hasN e.kind 114 && e.other != -1 then false
  else true
def numbersB (e : En) (nv : Int) : Bool :=
  if hasN e.kind 101 && !inB 1 1048576 e.epoch || !hasN e.kind 101 && e.epoch != 0 then false
  else if hasN e.kind 119 && (!inB 0 1073741824 e.from_ || !inB 0 1073741824 e.until_) || !hasN e.kind 119 && (e.from_ != 0 || e.until_ != 0) then false
  else if hasN e.kind 118 then inB 0 (nv - 1) e.n
  else if hasN e.kind 98 then inB 0 1 e.n
  else if hasN e.kind 109 then inB 1 3 e.n
  else if hasN e.kind 110 then inB 0 1073741824 e.n
  else e.n == 0
def rightB (e : En) (nt nc nr nv : Int) : Bool := inB 1 16 e.kind && inB 0 1073741824 e.tick && placesB e nt nc nr && numbersB e nv

theorem inB_zero (n : Int) : inB 0 0 n = (n == 0) := by
  unfold inB
  rw [Bool.eq_iff_iff]
  simp
  omega
theorem inB_none (n : Int) : inB (-1) (-1) n = (n == -1) := by
  unfold inB
  rw [Bool.eq_iff_iff]
  simp
  omega

/-- The program's forms say what the reference's words say. -/
theorem fitsB_eq (e : En) (nt nc nr nv : Int) : fitsB e nt nc nr nv = rightB e nt nc nr nv := by
  obtain ⟨k, tick, te, ce, ot, ep, fr, un, n⟩ := e
  by_cases hk : 1 ≤ k ∧ k ≤ 16
  · obtain ⟨h1, h2⟩ := hk
    have hcases : k = 1 ∨ k = 2 ∨ k = 3 ∨ k = 4 ∨ k = 5 ∨ k = 6 ∨ k = 7 ∨ k = 8 ∨ k = 9 ∨ k = 10 ∨ k = 11 ∨ k = 12 ∨ k = 13 ∨ k = 14 ∨ k = 15 ∨ k = 16 := by omega
    clear h1 h2
    rcases hcases with rfl | rfl | rfl | rfl | rfl | rfl | rfl | rfl | rfl | rfl | rfl | rfl | rfl | rfl | rfl | rfl
    all_goals
      simp only [fitsB, rightB, placesB, numbersB, formN, hasN, usesN, Sp.has, inB, spNone, spZero]
      rw [Bool.eq_iff_iff]
      simp
      omega
  · simp only [fitsB, rightB]
    have : inB 1 16 k = false := by unfold inB; simp; omega
    rw [this]
    rfl

theorem fits_shape (e : En) (nt nc nr nv : Int) : (shapeB e && fitsB e nt nc nr nv) = rightB e (min nt 32) (min nc 16) (min nr 4) (min nv 30) := by
  unfold shapeB
  rw [← fitsB_eq]
  obtain ⟨k, tick, te, ce, ot, ep, fr, un, n⟩ := e
  by_cases hk : 1 ≤ k ∧ k ≤ 16
  · obtain ⟨h1, h2⟩ := hk
    have hcases : k = 1 ∨ k = 2 ∨ k = 3 ∨ k = 4 ∨ k = 5 ∨ k = 6 ∨ k = 7 ∨ k = 8 ∨ k = 9 ∨ k = 10 ∨ k = 11 ∨ k = 12 ∨ k = 13 ∨ k = 14 ∨ k = 15 ∨ k = 16 := by omega
    clear h1 h2
    rcases hcases with rfl | rfl | rfl | rfl | rfl | rfl | rfl | rfl | rfl | rfl | rfl | rfl | rfl | rfl | rfl | rfl
    all_goals
      simp only [fitsB, formN, Sp.has, inB, spNone, spZero]
      rw [Bool.eq_iff_iff]
      simp <;> omega
  · simp only [fitsB]
    have : inB 1 16 k = false := by unfold inB; simp; omega
    rw [this]
    rfl
end Go.Proofs.Ytneeajegegmigaa
