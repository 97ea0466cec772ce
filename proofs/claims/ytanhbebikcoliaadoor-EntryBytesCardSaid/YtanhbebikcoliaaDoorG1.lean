/-
  Several texts in one: Base, Make.
-/
import Derived.Test.YtanhbebikcoliaaDoorRows
import Derived.WalkKit
import Derived.ProofKit
import Derived.OpenShut
import Derived.ShutString
import Derived.ChangeOld
import Derived.Below
import Derived.Outline
import Derived.Lib.Hide
import Derived.WalkLawsBesides
import Derived.WalkSpells
import Derived.Deep.QuietTactic
import Derived.BigQuiet
/- The words of memory that this seat's proofs use: a slice that reads as a list of values, bytes and integers as values; the seat's closed facts. -/
namespace Go.Proofs.YtanhbebikcoliaaDoor
open Go.ChangeShapes Go.WideShapes Go.ChangeAt Go.RowKit
open Go.ChangeMaps (open_string shut_string)

theorem own : ownKnob Tryd.prog.godebug = none := by kernel_rfl
theorem laidOut : laidOutB Tryd.prog = true := by kernel_rfl

/-- What the frame hands over of a slice of integers. -/
def IsRow (k : IntKind) (w : World) (a : Option Addr) (len cap : Nat) (zs : List Int) : Prop :=
  (a = none ∧ len = 0 ∧ cap = 0 ∧ zs = []) ∨
  ∃ x, a = some x ∧ len ≤ cap ∧ cap ≤ maxLen ∧ zs.length = cap ∧ (∀ i, i < zs.length → w.cell? (x.add i) = some (.int k (zs.getD i 0))) ∧ ∀ n ∈ zs, (Lit.int k n).wf = true

/-- A byte as a value. -/
abbrev bv (c : UInt8) : Value := .int .u8 (c.toNat : Int)

/-- The slice at A reads as xs; it lies below block B. -/
def Rd (w : World) (B : Nat) (A : Option Addr) (xs : List Value) : Prop :=
  xs = [] ∨ ∃ b off, A = some ⟨b, off, none⟩ ∧ b < B ∧ ∀ j, (h : j < xs.length) → w.cell? ⟨b, off + j, none⟩ = some xs[j]

theorem Rd.nil {w : World} {B : Nat} {A : Option Addr} : Rd w B A [] := .inl rfl

theorem Rd.at_ {w : World} {B : Nat} {A : Option Addr} {xs : List Value} (h : Rd w B A xs) (hp : 0 < xs.length) :
    ∃ b off, A = some ⟨b, off, none⟩ ∧ b < B ∧ ∀ j, (h : j < xs.length) → w.cell? ⟨b, off + j, none⟩ = some xs[j] := by
  rcases h with rfl | h
  · simp at hp
  · exact h

theorem Rd.keep {w w' : World} {B : Nat} {A : Option Addr} {xs : List Value} (h : Rd w B A xs) (hk : ∀ p : Addr, p.block < B → w'.cell? p = w.cell? p) : Rd w' B A xs := by
  rcases h with rfl | ⟨b, off, rfl, hb, hc⟩
  · exact .inl rfl
  · exact .inr ⟨b, off, rfl, hb, fun j hj => (hk ⟨b, off + j, none⟩ hb).trans (hc j hj)⟩

theorem Rd.mono {w : World} {B B' : Nat} {A : Option Addr} {xs : List Value} (h : Rd w B A xs) (hB : B ≤ B') : Rd w B' A xs := by
  rcases h with rfl | ⟨b, off, rfl, hb, hc⟩
  · exact .inl rfl
  · exact .inr ⟨b, off, rfl, by omega, hc⟩

theorem Rd.below {w w' : World} {B : Nat} {A : Option Addr} {xs : List Value} (h : Rd w B A xs) (hb : Below B w w') : Rd w' B A xs :=
  h.keep fun _ hp => hb.cell hp

theorem Rd.take {w : World} {B : Nat} {A : Option Addr} {xs : List Value} (h : Rd w B A xs) (k : Nat) : Rd w B A (xs.take k) := by
  rcases h with rfl | ⟨b, off, rfl, hb, hc⟩
  · exact .inl (by simp)
  · exact .inr ⟨b, off, rfl, hb, fun j hj => by
      rw [List.length_take] at hj
      rw [hc j (by omega), List.getElem_take]⟩

theorem Rd.drop {w : World} {B b off : Nat} {xs : List Value} (h : Rd w B (some ⟨b, off, none⟩) xs) (i : Nat) : Rd w B (some ⟨b, off + i, none⟩) (xs.drop i) := by
  rcases h with rfl | ⟨b', off', he, hb, hc⟩
  · exact .inl (by simp)
  · injection he with he
    injection he with e1 e2
    subst e1 e2
    refine .inr ⟨b, off + i, rfl, hb, fun j hj => ?_⟩
    rw [List.length_drop] at hj
    rw [Nat.add_assoc, hc (i + j) (by omega), List.getElem_drop]

/-- A row of bytes that came in, as a list of bytes. -/
theorem IsRow.bytes {w : World} {a : Option Addr} {len cap : Nat} {zs : List Int} (h : IsRow .u8 w a len cap zs) :
    ∃ l sp : List UInt8, l.length = len ∧ (l ++ sp).length = cap ∧ len ≤ cap ∧ cap ≤ maxLen ∧ Rd w w.heap.size a ((l ++ sp).map bv) := by
  rcases h with ⟨rfl, rfl, rfl, rfl⟩ | ⟨x, rfl, hl, hm, hz, hc, hw⟩
  · exact ⟨[], [], rfl, rfl, Nat.le_refl _, Nat.zero_le _, .inl rfl⟩
  · have hzb : ∀ n ∈ zs, 0 ≤ n ∧ n ≤ 255 := fun n hn => bounds_u8 (hw n hn)
    let L : List UInt8 := zs.map fun n => UInt8.ofNat n.toNat
    have hLl : L.length = cap := by simp [L, hz]
    have hmap : L.map bv = zs.map (Value.int .u8) := by
      simp only [L, List.map_map]
      apply List.map_congr_left
      intro n hn
      have := hzb n hn
      simp only [Function.comp, bv, UInt8.toNat_ofNat']
      congr 1
      omega
    refine ⟨L.take len, L.drop len, by rw [List.length_take]; omega, by rw [List.take_append_drop, hLl], hl, hm, ?_⟩
    rw [List.take_append_drop, hmap]
    by_cases h0 : zs.length = 0
    · exact .inl (by rw [List.length_eq_zero_iff.1 h0]; rfl)
    · obtain ⟨b, off, spot⟩ := x
      have hc0 := hc 0 (by omega)
      have hspot : spot = none := by simpa [Addr.add] using World.cell?_spot hc0
      subst hspot
      refine .inr ⟨b, off, rfl, ?_, fun j hj => ?_⟩
      · have : (⟨b, off, none⟩ : Addr).add 0 = ⟨b, off, none⟩ := by simp [Addr.add]
        rw [this] at hc0
        unfold World.cell? at hc0
        rcases Nat.lt_or_ge b w.heap.size with hlt | hge
        · exact hlt
        · rw [Array.getElem?_eq_none hge] at hc0
          cases hc0
      · have hj' : j < zs.length := by simpa using hj
        have := hc j hj'
        have e : (⟨b, off, none⟩ : Addr).add j = ⟨b, off + j, none⟩ := by unfold Addr.add; split <;> simp_all
        rw [e] at this
        rw [this]
        simp [List.getElem?_eq_getElem hj']

/-- The same, the elements and the whole row apart. -/
theorem IsRow.open_ {w : World} {a : Option Addr} {len cap : Nat} {zs : List Int} (h : IsRow .u8 w a len cap zs) :
    ∃ l : List UInt8, l.length = len ∧ len ≤ maxLen ∧ len ≤ cap ∧ (a = none → len = 0) ∧ Rd w w.heap.size a (l.map bv) := by
  obtain ⟨l, sp, h1, _, h3, h4, h5⟩ := h.bytes
  refine ⟨l, h1, by omega, h3, fun ha => ?_, ?_⟩
  · subst ha
    rcases h with ⟨_, rfl, _⟩ | ⟨x, hx, _⟩
    · rfl
    · cases hx
  have := h5.take l.length
  rwa [List.map_append, List.take_left' (by simp)] at this

theorem ret_int {k : IntKind} {a b : Int} (h : a = b) : Ending.returned (.int k a) = .returned (.int k b) := by rw [h]
theorem ret_bool {a b : Bool} (h : a = b) : Ending.returned (.bool a) = .returned (.bool b) := by rw [h]

end Go.Proofs.YtanhbebikcoliaaDoor
/- The contracts of Mod and Between. -/
namespace Go.Proofs.YtanhbebikcoliaaDoor
open Go.ChangeShapes Go.WideShapes Go.ChangeAt Go.RowKit

theorem tmod_emod (v n : Int) (_hn : 0 < n) : (v.tmod n + n) % n = v % n := by
  rw [Int.add_emod_right]
  rcases Int.lt_or_le v 0 with h | h
  · have e : v.tmod n = -((-v) % n) := by
      have h1 : v.tmod n = -((-v).tmod n) := by rw [Int.neg_tmod, Int.neg_neg]
      rw [h1, Int.tmod_eq_emod_of_nonneg (by omega)]
    rw [e]
    have h2 : v % n = (-(-v)) % n := by rw [Int.neg_neg]
    rw [h2]
    generalize -v = u
    have := Int.emod_add_mul_ediv u n
    have h3 : -u = -(u % n) + n * (-(u / n)) := by rw [Int.mul_neg]; omega
    rw [h3, Int.add_mul_emod_self_left]
  · rw [Int.tmod_eq_emod_of_nonneg h, Int.emod_emod]

theorem mod_any (v n : Int) (w : World) (hn : 0 < n) (hn2 : n ≤ 4611686018427387904) :
    Calls Tryd.prog 27 #[.int .i64 v, .int .i64 n] w fun e w' => e = .returned (.int .i64 (v % n)) ∧ w = w' := by
  have hrm1 := Int.lt_tmod_of_pos v hn
  have hrm2 := Int.tmod_lt_of_pos v hn
  have hne : (n == 0) = false := by simp; omega
  have HE := Lib.hid (tmod_emod v n hn)
  go_enter Tryd.func27, Tryd.ntmps27
  go_wp2
  go_ret
  exact ⟨ret_int HE.out, rfl⟩

theorem between_any (v low high : Int) (w : World) (h1 : low ≤ high) (h2 : -1152921504606846976 ≤ low) (h3 : high ≤ 1152921504606846976) :
    Calls Tryd.prog 12 #[.int .i64 v, .int .i64 low, .int .i64 high] w fun e w' => e = .returned (.int .i64 (low + v % (high - low + 1))) ∧ w = w' := by
  go_enter Tryd.func12, Tryd.ntmps12
  go_wp2_with fail
  refine (mod_any _ _ _ (by omega) (by omega)).mono ?_
  rintro e w' ⟨rfl, rfl⟩
  have b1 := Int.emod_nonneg v (b := high - low + 1) (by omega)
  have b2 := Int.emod_lt_of_pos v (b := high - low + 1) (by omega)
  go_wp2_with fail
  go_ret
  exact ⟨rfl, rfl⟩
end Go.Proofs.YtanhbebikcoliaaDoor
