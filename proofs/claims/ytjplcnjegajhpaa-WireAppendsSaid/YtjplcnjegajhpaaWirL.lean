/-
  The contracts of wire.Text and wire.Ints.
-/
import Derived.Test.YtjplcnjegajhpaaWir
import Derived.Lib.AppendStr
namespace Go.Proofs.Ytjplcnjegajhpaa
open Go.ChangeShapes Go.WideShapes Go.ChangeAt Go.RowKit

/-- A row of integers that came in, as a list. -/
theorem IsRow.openI {w : World} {a : Option Addr} {len cap : Nat} {zs : List Int} (h : IsRow .i64 w a len cap zs) :
    ∃ l : List Int, l.length = len ∧ len ≤ maxLen ∧ len ≤ cap ∧ (a = none → len = 0) ∧ Rd w w.heap.size a (l.map iv) ∧ ∀ n ∈ l, -9223372036854775808 ≤ n ∧ n ≤ 9223372036854775807 := by
  rcases h with ⟨rfl, rfl, rfl, rfl⟩ | ⟨x, rfl, hl, hm, hz, hc, hw⟩
  · exact ⟨[], rfl, Nat.zero_le _, Nat.le_refl _, fun _ => rfl, .inl rfl, fun n hn => by cases hn⟩
  · refine ⟨zs.take len, by rw [List.length_take]; omega, by omega, hl, (fun h => by cases h), ?_, fun n hn => ?_⟩
    · by_cases h0 : zs.length = 0
      · exact .inl (by rw [List.length_eq_zero_iff.1 h0]; simp)
      · obtain ⟨b, off, spot⟩ := x
        have hc0 := hc 0 (by omega)
        have hspot : spot = none := by simpa [Addr.add] using World.cell?_spot hc0
        subst hspot
        have hall : Rd w w.heap.size (some ⟨b, off, none⟩) (zs.map iv) := by
          refine .inr ⟨b, off, rfl, ?_, fun j hj => ?_⟩
          · have : (⟨b, off, none⟩ : Addr).add 0 = ⟨b, off, none⟩ := by simp [Addr.add]
            rw [this] at hc0
            unfold World.cell? at hc0
            rcases Nat.lt_or_ge b w.heap.size with hlt | hge
            · exact hlt
            · rw [Array.getElem?_eq_none hge] at hc0
              cases hc0
          · have hj' : j < zs.length := by simpa using hj
            have := hc j hj'
            have e : (⟨b, off, none⟩ : Addr).add j = ⟨b, off + j, none⟩ := by unfold Addr.add; split <;> simp_all
            rw [e] at this
            rw [this]
            simp [List.getElem?_eq_getElem hj']
        rw [List.map_take]
        exact hall.take len
    · have := bounds_i64 (hw n (List.mem_of_mem_take hn))
      omega

/-- A row made since block B, in the kit's own word. -/
theorem Own.base {w : World} {B : Nat} {e : TypeId} {v : Value} {xs : List Value} (h : Own w (fun i => B ≤ i) e v xs) {n : Nat} (hn : xs.length = n) : w.ownsRow B e 1 v n xs := by
  subst hn
  refine ⟨h.1.1, ?_⟩
  rcases h.1.2 with h0 | ⟨g, cap, cur, rfl, _, rest⟩
  · exact .inl h0
  · exact .inr ⟨g, cap, cur, rfl, h.2 g rfl, rest⟩
theorem Own.ofBase {w : World} {B : Nat} {e : TypeId} {v : Value} {n : Nat} {xs : List Value} (h : w.ownsRow B e 1 v n xs) : Own w (fun i => B ≤ i) e v xs := by
  have hn : xs.length = n := by have := h.1; omega
  subst hn
  refine ⟨⟨h.1, ?_⟩, fun g hg => (h.lt g hg).1⟩
  rcases h.2 with h0 | ⟨g, cap, cur, rfl, _, rest⟩
  · exact .inl h0
  · exact .inr ⟨g, cap, cur, rfl, Nat.zero_le _, rest⟩

/-- The bytes of a text, of a list. -/
def textN (s : List UInt8) : List UInt8 := encN (codeN (s.length : Int)) ++ s
def intsF (l : List Int) : List UInt8 := l.flatMap fun n => encN (codeN n)
def intsN (l : List Int) : List UInt8 := encN (codeN (l.length : Int)) ++ intsF l

theorem intsF_snoc (l : List Int) (n : Int) : intsF (l ++ [n]) = intsF l ++ encN (codeN n) := by simp [intsF]
theorem intsF_len (l : List Int) (h : ∀ n ∈ l, -9223372036854775808 ≤ n ∧ n ≤ 9223372036854775807) : (intsF l).length ≤ 10 * l.length := by
  induction l with
  | nil => simp [intsF]
  | cons n l ih =>
    have h1 := encN_len10 _ (codeN_lt n (h n (by simp)).1 (h n (by simp)).2)
    have h2 := ih fun m hm => h m (by simp [hm])
    simp only [intsF, List.flatMap_cons, List.length_append, List.length_cons] at *
    omega

set_option maxHeartbeats 1000000 in
theorem text_any (A : Option Addr) (n c : Nat) (s : ByteArray) (l : List UInt8) (w : World) (B : Nat) (hA : A = none → n = 0) (hl : l.length = n) (hr : Rd w B A (l.map bv)) (hB : B ≤ w.heap.size) (hsz : n + s.size ≤ 140737488355000) :
    Calls Try.prog 21 #[.slice A n c, .string s] w fun e w' => ∃ A' c', e = .returned (.slice A' (n + (textN s.data.toList).length) c') ∧ Own w' (fun i => w.heap.size ≤ i) 5 (.slice A' (n + (textN s.data.toList).length) c') ((l ++ textN s.data.toList).map bv) ∧ Fr No w w' := by
  obtain ⟨i0, hi0, hz0, hz1, hz2⟩ := info_parts bytes_info
  have hel := encN_len10 (codeN (s.size : Int)) (codeN_lt _ (by omega) (by omega))
  have htx : textN s.data.toList = encN (codeN (s.size : Int)) ++ s.data.toList := rfl
  rw [htx]
  have HA := Lib.hid hA
  have HL := Lib.hid hl
  have HR := Lib.hid hr
  clear hA hl hr htx
  go_enter Try.func21, Try.ntmps21
  go_wp2_with fail
  refine (copied_any A n c (10 + s.size) l _ B HA.out HL.out HR.out hB (by omega) (by omega)).mono ?_
  rintro e w1 ⟨A1, c1, rfl, o1, f1⟩
  have O1 := Lib.hid o1
  have F1 := Lib.hid f1
  clear o1 f1
  go_wp2_with fail
  refine (put_any A1 n c1 (s.size : Int) l _ _ HL.out O1.out (by omega) (by omega) (by omega)).mono ?_
  rintro e w2 ⟨A2, c2, rfl, o2, f2⟩
  have hs := F1.out.size
  have O2 := Lib.hid (o2.mono (G := fun i => w.heap.size ≤ i) fun i hi => by rcases hi with hi | hi <;> omega)
  have F2 := Lib.hid (F1.out.transNew f2 fun i hi => hi)
  have hs2 := F2.out.size
  clear o2 f2 hs
  generalize hen : encN (codeN (s.size : Int)) = en at *
  go_wp2_with (at_builtin; refine Lib.wpList_append_own_string _ rfl (.tmp 12) (.tmp 13) _ _ rfl w.heap.size 5 i0 Try.underlying22 Try.underlying9 hi0 hz0 hz1 hz2 _ (n + en.length) ((l ++ en).map bv) rfl ?c0 s rfl ?c1 ?c2 ?c3 ?_)
  case c0 => exact O2.out.base (by rw [List.length_map, List.length_append, HL.out])
  case c1 => unfold maxLen; omega
  case c2 => omega
  case c3 => exact hs2
  intro v3 w3 ho3 hg3 _
  have o3 := Own.ofBase ho3
  have f3 := F2.out.transNew ((Fr.refl (fun i => w.heap.size ≤ i) w2).grown hg3 fun k hk => .inl (O2.out.2 k hk)) fun i hi => hi
  have e3 : l.map bv ++ (en.map bv ++ Lib.strCells s) = (l ++ (en ++ s.data.toList)).map bv := by simp [Lib.strCells]
  rw [e3] at o3
  obtain ⟨A3, c3, rfl, n3⟩ := o3.form
  have hl3 : ((l ++ (en ++ s.data.toList)).map bv).length = n + (en ++ s.data.toList).length := by rw [List.length_map, List.length_append, HL.out]
  rw [hl3] at o3 ⊢
  have O3 := Lib.hid o3
  have F3 := Lib.hid f3
  clear o3 f3 ho3 hg3 e3 n3 hl3
  go_wp2_with fail
  subst hen
  go_ret
  exact ⟨A3, c3, rfl, O3.out, F3.out⟩

set_option maxHeartbeats 1000000 in
theorem ints_any (A : Option Addr) (n c : Nat) (A0 : Option Addr) (m c0 : Nat) (q : List Int) (l : List UInt8) (w : World) (B B0 : Nat) (hA : A = none → n = 0) (hl : l.length = n) (hr : Rd w B A (l.map bv)) (hB : B ≤ w.heap.size)
    (hA0 : A0 = none → m = 0) (hq : q.length = m) (hr0 : Rd w B0 A0 (q.map iv)) (hB0 : B0 ≤ w.heap.size) (hb : ∀ x ∈ q, -9223372036854775808 ≤ x ∧ x ≤ 9223372036854775807) (hsz : n + 10 * m ≤ 224000000000000) :
    Calls Try.prog 23 #[.slice A n c, .slice A0 m c0] w fun e w' => ∃ A' c', e = .returned (.slice A' (n + (intsN q).length) c') ∧ Own w' (fun i => w.heap.size ≤ i) 5 (.slice A' (n + (intsN q).length) c') ((l ++ intsN q).map bv) ∧ Fr No w w' := by
  have hel := encN_len10 (codeN (m : Int)) (codeN_lt _ (by omega) (by omega))
  have htx : intsN q = encN (codeN (m : Int)) ++ intsF q := by rw [← hq]; rfl
  rw [htx]
  have HA := Lib.hid hA
  have HL := Lib.hid hl
  have HR := Lib.hid hr
  have HA0 := Lib.hid hA0
  have HQ := Lib.hid hq
  have HR0 := Lib.hid hr0
  have HQB := Lib.hid hb
  clear hA hl hr htx hA0 hq hr0 hb
  go_enter Try.func23, Try.ntmps23
  go_wp2_with fail
  refine (copied_any A n c (10 + m) l _ B HA.out HL.out HR.out hB (by omega) (by omega)).mono ?_
  rintro e w1 ⟨A1, c1, rfl, o1, f1⟩
  have O1 := Lib.hid o1
  have F1 := Lib.hid f1
  clear o1 f1
  go_wp2_with fail
  refine (put_any A1 n c1 (m : Int) l _ _ HL.out O1.out (by omega) (by omega) (by omega)).mono ?_
  rintro e w2 ⟨A2, c2, rfl, o2, f2⟩
  have hs := F1.out.size
  have O2 := Lib.hid (o2.mono (G := fun i => w.heap.size ≤ i) fun i hi => by rcases hi with hi | hi <;> omega)
  have F2 := Lib.hid (F1.out.transNew f2 fun i hi => hi)
  have hs2 := F2.out.size
  clear o2 f2 hs
  generalize hen : encN (codeN (m : Int)) = en at *
  go_wp2_with fail
  go_loopw [5, 18] (fun o i wr => ∃ (A' : Option Addr) (c' k : Nat) (p : List UInt8), k ≤ m ∧ i = .int .i64 k ∧ p = intsF (q.take k) ∧ p.length ≤ 10 * k ∧ o = .slice A' (n + en.length + p.length) c' ∧ Own wr (fun i => w.heap.size ≤ i) 5 (.slice A' (n + en.length + p.length) c') ((l ++ en ++ p).map bv) ∧ Fr No w wr) (fun _ i _ => m - (intOf i).toNat)
  case atStart => exact ⟨A2, c2, 0, [], Nat.zero_le _, rfl, by simp [intsF], by simp, rfl, by simpa using O2.out, F2.out⟩
  case round =>
    obtain ⟨A', c', k, p, hk, rfl, hp, hpl, rfl, ho, hf⟩ := hrel
    have HP := Lib.hid hp
    have O3 := Lib.hid ho
    have F3 := Lib.hid hf
    have hs3 : w.heap.size ≤ wr.heap.size := hf.size
    clear hp ho hf
    by_cases hlt : k < m
    · obtain ⟨b, off, rfl, _, hc⟩ := HR0.out.at_ (by rw [List.length_map, HQ.out]; omega)
      have hkl : k < q.length := by rw [HQ.out]; exact hlt
      have hck := HR0.out.frNo F3.out hB0 |>.at_ (by rw [List.length_map, HQ.out]; omega)
      obtain ⟨b', off', hbe, _, hc'⟩ := hck
      injection hbe with hbe
      injection hbe with hb1 hb2
      subst hb1 hb2
      have hck := hc' k (by rw [List.length_map]; exact hkl)
      simp only [List.getElem_map] at hck
      have HS := Lib.hid (List.take_succ_eq_append_getElem hkl)
      have HX := Lib.hid (HQB.out q[k] (List.getElem_mem hkl))
      have hen1 := encN_len10 _ (codeN_lt q[k] HX.out.1 HX.out.2)
      generalize q[k] = x at *
      clear hc hc'
      go_wp2_with fail
      refine (put_any A' (n + en.length + p.length) c' x (l ++ en ++ p) _ _ (by rw [List.length_append, List.length_append, HL.out]) O3.out HX.out.1 HX.out.2 (by omega)).mono ?_
      rintro e w4 ⟨A4, c4, rfl, o4, f4⟩
      have O4 := Lib.hid (o4.mono (G := fun i => w.heap.size ≤ i) fun i hi => by rcases hi with hi | hi <;> omega)
      have F4 := Lib.hid (F3.out.transNew f4 fun i hi => hi)
      clear o4 f4
      go_wp2_with fail
      go_roundw
      case rel =>
        refine ⟨A4, c4, k + 1, p ++ encN (codeN x), by omega, by go_num, by rw [HS.out, intsF_snoc, HP.out], by rw [List.length_append]; omega, ?_, ?_, F4.out⟩
        · rw [List.length_append, Nat.add_assoc (n + en.length)]
        · rw [List.length_append, ← Nat.add_assoc (n + en.length), ← List.append_assoc]; exact O4.out
      case measure => simp [intOf]; omega
    · have hpe : p = intsF q := by rw [HP.out, List.take_of_length_le (by rw [HQ.out]; omega)]
      have HPE := Lib.hid hpe
      clear hpe
      go_wp2_with fail
      subst hen
      go_ret
      refine ⟨A', c', ?_, ?_, F3.out⟩
      · rw [← HPE.out, List.length_append, Nat.add_assoc]; rfl
      · rw [← HPE.out, List.length_append, ← Nat.add_assoc, ← List.append_assoc]; exact O3.out
end Go.Proofs.Ytjplcnjegajhpaa
