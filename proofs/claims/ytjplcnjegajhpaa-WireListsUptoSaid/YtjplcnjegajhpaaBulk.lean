/-
  What the bound of an 'upto' statement says of single arguments: a slice's places, a string's letters.
-/
import Derived.Test.YtjplcnjegajhpaaBase
import Derived.JoinedCond
namespace Go.Proofs.Ytjplcnjegajhpaa
open Go.ChangeShapes Go.WideShapes Go.ChangeAt Go.RowKit

theorem bulk_pos {H : Type} (d : DataW H) : 1 ≤ Rows.uptoBulk d := by
  rcases d with (_ | _ | _ | _ | _) | _ | _ | _ | _ | _ | _ | _ <;> simp [Rows.uptoBulk]

theorem bulk_at {H : Type} : ∀ (l : List (DataW H)) (j : Nat) (d : DataW H), l[j]? = some d → Rows.uptoBulk d ≤ Rows.uptoBulkAll l := by
  intro l
  induction l with
  | nil => intro j d h; simp at h
  | cons x r ih =>
    intro j d h
    rcases j with _ | j
    · simp only [List.getElem?_cons_zero, Option.some.injEq] at h
      subst h
      simp only [Rows.uptoBulkAll]
      omega
    · simp only [List.getElem?_cons_succ] at h
      have := ih j d h
      simp only [Rows.uptoBulkAll]
      omega

theorem bulk_len {H : Type} (l : List (DataW H)) : l.length ≤ Rows.uptoBulkAll l := by
  induction l with
  | nil => simp
  | cons x r ih => have := bulk_pos x; simp only [Rows.uptoBulkAll, List.length_cons]; omega

theorem bulk_small {H : Type} {l : List (DataW H)} (hk : Rows.uptoSmall H l = true) : Rows.uptoBulkAll l ≤ 1048576 := of_decide_eq_true hk

theorem bulk_slice {H : Type} {l : List (DataW H)} (hk : Rows.uptoSmall H l = true) {j : Nat} {elems spare : List (DataW H)} (hd : l[j]? = some (.slice elems spare)) :
    elems.length + spare.length ≤ 1048576 := by
  have h1 := bulk_at l j _ hd
  have h2 := bulk_small hk
  have h3 := bulk_len elems
  have h4 := bulk_len spare
  simp only [Rows.uptoBulk] at h1
  omega

theorem bulk_string {H : Type} {l : List (DataW H)} (hk : Rows.uptoSmall H l = true) {j : Nat} {bytes : List UInt8} (hd : l[j]? = some (.lit (.string bytes))) :
    bytes.length ≤ 1048576 := by
  have h1 := bulk_at l j _ hd
  have h2 := bulk_small hk
  simp only [Rows.uptoBulk] at h1
  omega

end Go.Proofs.Ytjplcnjegajhpaa
