/-
  A state one of whose cells' rows is being written; runs.
-/
import Derived.Test.YtanhbebikcoliaaDoorG8
namespace Go.Proofs.YtanhbebikcoliaaDoor
open Go.ChangeShapes Go.WideShapes Go.ChangeAt Go.RowKit
set_option linter.unusedVariables false
/-- What the log says of a cell. -/
structure Cs where
  md : Int
  rn : Int
  wa : Int
  si : Int
def Cs.cells (t : Cs) : List Value := [.int .i64 t.md, .int .i64 t.rn, .int .i64 t.wa, .int .i64 t.si]
/-- Its versions are versions. -/
structure CsOk (nv : Nat) (t : Cs) : Prop where
  rn : 0 ≤ t.rn ∧ t.rn < nv
  wa : 0 ≤ t.wa ∧ t.wa < nv
/-- A state whose row i of the cells (in block b) holds t, fit or not. -/
structure StCRow (w : World) (G : Nat → Prop) (c : Cf) (s : St) (b i : Nat) (t : Cs) : Prop where
  mt : s.mt = c.nt
  ms : s.ms = c.nc
  dt : s.mt ≤ s.dt ∧ s.dt ≤ maxLen
  ds : s.ms ≤ s.ds ∧ s.ds ≤ maxLen
  bt : s.Bs = some ⟨b, 0, none⟩
  gb : G b
  cel : ∃ cur, Blk w b TCs cur ∧ (∀ i', i' < c.nc → i' ≠ i → ∃ (m : Int) (r a : Nat) (s : Int), r < c.nv ∧ a < c.nv ∧ cur[i' * 4]? = some (.int .i64 m) ∧ cur[i' * 4 + 1]? = some (.int .i64 (r : Int)) ∧ cur[i' * 4 + 2]? = some (.int .i64 (a : Int)) ∧ cur[i' * 4 + 3]? = some (.int .i64 s)) ∧ ∀ j, j < 4 → cur[i * 4 + j]? = t.cells[j]?
  tens : c.nt = 0 ∨ ∃ b cur, s.Bt = some ⟨b, 0, none⟩ ∧ G b ∧ Blk w b TTs cur ∧ TsRows c.nc c.nt cur
  nil : s.Bt = none → s.mt = 0
section
variable {w w' : World} {F G : Nat → Prop} {c : Cf} {s : St} {b i j a : Nat} {t t' : Cs} {u : Value}
theorem StOk.crow (h : StOk w G c s) (hi : i < c.nc) : ∃ b t, CsOk c.nv t ∧ StCRow w G c s b i t := by
  obtain ⟨h1, h2, h3, h4, ⟨b, cur, e1, e2, e3, e4⟩, h9, h10⟩ := h
  obtain ⟨m, r, a, s, hr, ha, c0, c1, c2, c3⟩ := e4 i hi
  refine ⟨b, ⟨m, r, a, s⟩, ⟨⟨by show (0 : Int) ≤ (r : Int); omega, by show (r : Int) < _; omega⟩, ⟨by show (0 : Int) ≤ (a : Int); omega, by show (a : Int) < _; omega⟩⟩, h1, h2, h3, h4, e1, e2, ⟨cur, e3, fun i' hi' _ => e4 i' hi', fun j hj => ?_⟩, h9, h10⟩
  rcases j with _ | _ | _ | _ | j
  · exact c0
  · exact c1
  · exact c2
  · exact c3
  · omega
theorem StCRow.ok (h : StCRow w G c s b i t) (ht : CsOk c.nv t) : StOk w G c s := by
  obtain ⟨h1, h2, h3, h4, h6, h7, ⟨cur, h8, h9, h10⟩, h11, h12⟩ := h
  refine ⟨h1, h2, h3, h4, ⟨b, cur, h6, h7, h8, fun i' hi' => ?_⟩, h11, h12⟩
  by_cases e : i' = i
  · subst e
    obtain ⟨r, hr⟩ : ∃ r : Nat, t.rn = r := ⟨t.rn.toNat, by have := ht.rn; omega⟩
    obtain ⟨a, ha⟩ : ∃ a : Nat, t.wa = a := ⟨t.wa.toNat, by have := ht.wa; omega⟩
    refine ⟨t.md, r, a, t.si, by have := ht.rn; omega, by have := ht.wa; omega, h10 0 (by decide), ?_, ?_, h10 3 (by decide)⟩
    · rw [← hr]; exact h10 1 (by decide)
    · rw [← ha]; exact h10 2 (by decide)
  · exact h9 i' hi' e
theorem StCRow.fr (h : StCRow w G c s b i t) (hf : Fr F w w') (hF : ∀ i, G i → ¬ F i) : StCRow w' G c s b i t := by
  obtain ⟨h1, h2, h3, h4, h6, h7, ⟨cur, h8, h9, h10⟩, h11, h12⟩ := h
  refine ⟨h1, h2, h3, h4, h6, h7, ⟨cur, h8.fr hf (hF b h7), h9, h10⟩, h11.imp id ?_, h12⟩
  rintro ⟨b', cur', k1, k2, k3, k4⟩
  exact ⟨b', cur', k1, k2, k3.fr hf (hF b' k2), k4⟩
theorem StCRow.frNo (h : StCRow w G c s b i t) (hf : Fr No w w') : StCRow w' G c s b i t := h.fr hf fun _ _ h => h
theorem StCRow.set (h : StCRow w G c s b i t) (hj : j < 4) (ht : t'.cells = t.cells.set j u) : StCRow (w.setCell ⟨b, i * 4 + j, none⟩ u) G c s b i t' := by
  obtain ⟨h1, h2, h3, h4, h6, h7, ⟨cur, h8, h9, h10⟩, h11, h12⟩ := h
  have hl : t.cells.length = 4 := rfl
  have h13 : i * 4 + j < cur.size := by
    have := h10 j hj
    rw [List.getElem?_eq_getElem (by rw [hl]; exact hj)] at this
    exact (Array.getElem?_eq_some_iff.1 this).1
  refine ⟨h1, h2, h3, h4, h6, h7, ⟨_, h8.set_ (i * 4 + j) u, fun i' hi' hne' => ?_, fun k hk => ?_⟩, h11.imp id ?_, h12⟩
  · obtain ⟨m, r, a, s, hr, ha, c0, c1, c2, c3⟩ := h9 i' hi' hne'
    refine ⟨m, r, a, s, hr, ha, ?_, ?_, ?_, ?_⟩
    all_goals rw [Array.getElem?_setIfInBounds, if_neg (by omega)]
    · exact c0
    · exact c1
    · exact c2
    · exact c3
  · rw [Array.getElem?_setIfInBounds, ht]
    by_cases e : j = k
    · subst e
      rw [if_pos rfl, if_pos h13, List.getElem?_set_self (by rw [hl]; exact hj)]
    · rw [if_neg (by omega), List.getElem?_set_ne e]
      exact h10 k hk
  · rintro ⟨b', cur', k1, k2, k3, k4⟩
    refine ⟨b', cur', k1, k2, k3.fr (fr_set w ⟨b, i * 4 + j, none⟩ u) ?_, k4⟩
    rintro rfl
    unfold Blk at k3 h8
    rw [k3] at h8
    injection h8 with h8
    injection h8 with _ h8
    exact absurd h8 (by decide)
theorem StCRow.setA (h : StCRow w G c s b i t) (hj : j < 4) (ha : a = i * 4 + j) (ht : t'.cells = t.cells.set j u) : StCRow (w.setCell ⟨b, a, none⟩ u) G c s b i t' := ha ▸ h.set hj ht
theorem StCRow.lt (h : StCRow w G c s b i t) : b < w.heap.size := by
  obtain ⟨h1, h2, h3, h4, h6, h7, ⟨cur, h8, h9, h10⟩, h11, h12⟩ := h
  exact h8.lt
theorem StCRow.at_ (h : StCRow w G c s b i t) : ∀ V, Fr No w V → (V.cell? ⟨b, i * 4, none⟩ = some (.int .i64 t.md) ∧ V.cell? ⟨b, i * 4 + 1, none⟩ = some (.int .i64 t.rn) ∧ V.cell? ⟨b, i * 4 + 2, none⟩ = some (.int .i64 t.wa) ∧ V.cell? ⟨b, i * 4 + 3, none⟩ = some (.int .i64 t.si)) ∧ ∀ k, V.frozen? ⟨b, k, none⟩ = false := fun V hf => by
  obtain ⟨h1, h2, h3, h4, h6, h7, ⟨cur, h8, h9, hc⟩, h11, h12⟩ := h
  have k := h8.fr hf fun h => h
  exact ⟨⟨(k.cell _).trans (hc 0 (by decide)), (k.cell _).trans (hc 1 (by decide)), (k.cell _).trans (hc 2 (by decide)), (k.cell _).trans (hc 3 (by decide))⟩, fun k' => k.frozen k'⟩
theorem StTo.drew {H : Nat → Prop} {e : Ending} (h : StTo w G H c e w') : StTo w G H c e w'.drew := let ⟨s, k, he, ho, hf⟩ := h; ⟨s, k, he, fun hk => (ho hk).frNo (Fr.refl No _).drew, hf.drew⟩
theorem Blk.drewn {g : Nat} {t : TypeId} {cs : Array Value} (h : Blk w g t cs) : Blk w.drew g t cs := h
end
set_option maxRecDepth 100000 in
set_option maxHeartbeats 8000000 in
theorem runs_any {w : World} {G : Nat → Prop} {c : Cf} {s : St} (hs : StOk w G c s) (hG : ∀ i, G i → i < w.heap.size) (e : En) (hc1 : 0 ≤ e.cell) (hc2 : e.cell < c.nc) (hv1 : 0 ≤ e.n) (hv2 : e.n < c.nv) :
    Calls Tryd.prog 75 #[.agg s.arr, .agg (EnArr e)] w (StTo w G G c) := by
  obtain ⟨j, hj, hjl⟩ := nat_of hc1 hc2
  obtain ⟨bs, t, hto, hrow⟩ := hs.crow hjl
  have h2 := hrow.bt
  have hgb := hrow.gb
  have hbt := hrow.lt
  have hst := fun W (hf : Fr No w W) => hs.frNo hf
  have hP := fun v W => proven_q s v W
  have hten := fun i (hi : i < c.nt) => hs.ten hi
  have hcel := fun i (hi : i < c.nc) => hs.cell hi
  have hmx : s.mt ≤ 9223372036854775807 := by have := hs.dt; unfold maxLen at this; omega
  have hmy : s.ms ≤ 9223372036854775807 := by have := hs.ds; unfold maxLen at this; omega
  have hms := hs.ms
  have hmt := hs.mt
  obtain ⟨rg, nz, nc, nt, nv, le, bk, bz, bc, bv, cz, cc, ct, cv, At, Ar, nr, cr, Ao, no_, co, bl⟩ := c
  obtain ⟨tk, cn, Bt, mt, dt, Bs, ms, ds, pr, ev, lo, hi⟩ := s
  obtain ⟨kd, et, tn, cl, ot, ep, fm, un, n⟩ := e
  obtain ⟨md, rn, wa, si⟩ := t
  simp only at *
  subst hms hmt
  subst h2 hj
  have hjx : (0 : Int) ≤ (j : Int) ∧ (j : Int) < (ms : Int) := by omega
  clear hs hc1 hc2
  obtain ⟨w1, hw1⟩ : ∃ w1, w1 = w.alloc (.cells #[.int .i64 tk, .int .i64 cn, .slice Bt mt dt, .slice (some ⟨bs, 0, none⟩) ms ds, .int .i64 pr, .int .i64 ev, .int .i64 lo, .int .i64 hi] TSt) := ⟨_, rfl⟩
  obtain ⟨g1, hg1⟩ : ∃ g1, g1 = w.heap.size := ⟨_, rfl⟩
  have hb1 : Blk w1 g1 TSt #[.int .i64 tk, .int .i64 cn, .slice Bt mt dt, .slice (some ⟨bs, 0, none⟩) ms ds, .int .i64 pr, .int .i64 ev, .int .i64 lo, .int .i64 hi] := by rw [hw1, hg1]; exact Blk.new _ _ _
  have f1 : Fr No w w1 := by rw [hw1]; exact fr_alloc _ _
  have hs1 : w1.heap.size = g1 + 1 := by rw [hw1, hg1]; simp
  obtain ⟨w2, hw2⟩ : ∃ w2, w2 = w1.alloc (.cells #[.int .i64 kd, .int .i64 et, .int .i64 tn, .int .i64 (j : Int), .int .i64 ot, .int .i64 ep, .int .i64 fm, .int .i64 un, .int .i64 n] TEm) := ⟨_, rfl⟩
  obtain ⟨g2, hg2⟩ : ∃ g2, g2 = w1.heap.size := ⟨_, rfl⟩
  have hb2 : Blk w2 g2 TEm #[.int .i64 kd, .int .i64 et, .int .i64 tn, .int .i64 (j : Int), .int .i64 ot, .int .i64 ep, .int .i64 fm, .int .i64 un, .int .i64 n] := by rw [hw2, hg2]; exact Blk.new _ _ _
  have f2 : Fr No w1 w2 := by rw [hw2]; exact fr_alloc _ _
  have hs2 : w2.heap.size = g2 + 1 := by rw [hw2, hg2]; simp
  obtain ⟨w3, hw3⟩ : ∃ w3, w3 = w2.alloc (.cells #[.int .i64 0, .int .i64 0, .slice none 0 0, .slice none 0 0, .int .i64 0, .int .i64 0, .int .i64 0, .int .i64 0] TSt) := ⟨_, rfl⟩
  obtain ⟨g3, hg3⟩ : ∃ g3, g3 = w2.heap.size := ⟨_, rfl⟩
  have hb3 : Blk w3 g3 TSt #[.int .i64 0, .int .i64 0, .slice none 0 0, .slice none 0 0, .int .i64 0, .int .i64 0, .int .i64 0, .int .i64 0] := by rw [hw3, hg3]; exact Blk.new _ _ _
  have f3 : Fr No w2 w3 := by rw [hw3]; exact fr_alloc _ _
  have hs3 : w3.heap.size = g3 + 1 := by rw [hw3, hg3]; simp
  have hB1 : Blk w3 g1 TSt #[.int .i64 tk, .int .i64 cn, .slice Bt mt dt, .slice (some ⟨bs, 0, none⟩) ms ds, .int .i64 pr, .int .i64 ev, .int .i64 lo, .int .i64 hi] := hb1.fr (((Fr.refl No _).transNo f2).transNo f3) (fun h => h)
  have hB2 : Blk w3 g2 TEm #[.int .i64 kd, .int .i64 et, .int .i64 tn, .int .i64 (j : Int), .int .i64 ot, .int .i64 ep, .int .i64 fm, .int .i64 un, .int .i64 n] := hb2.fr ((Fr.refl No _).transNo f3) (fun h => h)
  have hB3 : Blk w3 g3 TSt #[.int .i64 0, .int .i64 0, .slice none 0 0, .slice none 0 0, .int .i64 0, .int .i64 0, .int .i64 0, .int .i64 0] := hb3.fr (Fr.refl No _) (fun h => h)
  have fW : Fr No w w3 := (((Fr.refl No w).transNo f1).transNo f2).transNo f3
  have he2 : g2 = g1 + 1 := by rw [hg2, hs1]
  have he3 : g3 = g1 + 2 := by rw [hg3, hs2]; rw [he2]
  have hka : ∀ V, Fr No w3 V → (V.cell? ⟨g1, 0, none⟩ = some (.int .i64 tk) ∧ V.cell? ⟨g1, 1, none⟩ = some (.int .i64 cn) ∧ V.cell? ⟨g1, 2, none⟩ = some (.slice Bt mt dt) ∧ V.cell? ⟨g1, 3, none⟩ = some (.slice (some ⟨bs, 0, none⟩) ms ds) ∧ V.cell? ⟨g1, 4, none⟩ = some (.int .i64 pr) ∧ V.cell? ⟨g1, 5, none⟩ = some (.int .i64 ev) ∧ V.cell? ⟨g1, 6, none⟩ = some (.int .i64 lo) ∧ V.cell? ⟨g1, 7, none⟩ = some (.int .i64 hi)) ∧ (V.cell? ⟨g2, 0, none⟩ = some (.int .i64 kd) ∧ V.cell? ⟨g2, 1, none⟩ = some (.int .i64 et) ∧ V.cell? ⟨g2, 2, none⟩ = some (.int .i64 tn) ∧ V.cell? ⟨g2, 3, none⟩ = some (.int .i64 (j : Int)) ∧ V.cell? ⟨g2, 4, none⟩ = some (.int .i64 ot) ∧ V.cell? ⟨g2, 5, none⟩ = some (.int .i64 ep) ∧ V.cell? ⟨g2, 6, none⟩ = some (.int .i64 fm) ∧ V.cell? ⟨g2, 7, none⟩ = some (.int .i64 un) ∧ V.cell? ⟨g2, 8, none⟩ = some (.int .i64 n)) ∧ (V.cell? ⟨g3, 0, none⟩ = some (.int .i64 0) ∧ V.cell? ⟨g3, 1, none⟩ = some (.int .i64 0) ∧ V.cell? ⟨g3, 2, none⟩ = some (.slice none 0 0) ∧ V.cell? ⟨g3, 3, none⟩ = some (.slice none 0 0) ∧ V.cell? ⟨g3, 4, none⟩ = some (.int .i64 0) ∧ V.cell? ⟨g3, 5, none⟩ = some (.int .i64 0) ∧ V.cell? ⟨g3, 6, none⟩ = some (.int .i64 0) ∧ V.cell? ⟨g3, 7, none⟩ = some (.int .i64 0)) := fun V hf => ⟨(let k := hB1.fr hf (fun h => h); ⟨k.cell 0, k.cell 1, k.cell 2, k.cell 3, k.cell 4, k.cell 5, k.cell 6, k.cell 7⟩), (let k := hB2.fr hf (fun h => h); ⟨k.cell 0, k.cell 1, k.cell 2, k.cell 3, k.cell 4, k.cell 5, k.cell 6, k.cell 7, k.cell 8⟩), (let k := hB3.fr hf (fun h => h); ⟨k.cell 0, k.cell 1, k.cell 2, k.cell 3, k.cell 4, k.cell 5, k.cell 6, k.cell 7⟩)⟩
  have hW : w3 = ((w.alloc (.cells #[.int .i64 tk, .int .i64 cn, .slice Bt mt dt, .slice (some ⟨bs, 0, none⟩) ms ds, .int .i64 pr, .int .i64 ev, .int .i64 lo, .int .i64 hi] TSt)).alloc (.cells #[.int .i64 kd, .int .i64 et, .int .i64 tn, .int .i64 (j : Int), .int .i64 ot, .int .i64 ep, .int .i64 fm, .int .i64 un, .int .i64 n] TEm)).alloc (.cells #[.int .i64 0, .int .i64 0, .slice none 0 0, .slice none 0 0, .int .i64 0, .int .i64 0, .int .i64 0, .int .i64 0] TSt) := by rw [hw3, hw2, hw1]
  have hl1 : g1 < w3.heap.size := hB1.lt
  have hl2 : g2 < w3.heap.size := hB2.lt
  have hl3 : g3 < w3.heap.size := hB3.lt
  clear hw1 hb1 hs1 hw2 hb2 hs2 hw3 hb3 hs3
  have HG1 := Lib.hid hg1
  have HG2 := Lib.hid hg2
  have HG3 := Lib.hid hg3
  have HE2 := Lib.hid he2
  have HE3 := Lib.hid he3
  clear hg1 hg2 hg3 he2 he3
  have hz := fun V (hV : Fr No w3 V) => hB3.fr hV (fun h => h)
  have hsb := fun V (hV : Fr No w3 V) => hB1.fr hV (fun h => h)
  have hgz : w.heap.size ≤ g3 := by rw [HE3.out, HG1.out]; omega
  have hra := fun V (hV : Fr No w3 V) => hrow.at_ V (fW.transNo hV)
  have hbt3 : bs < w3.heap.size := Nat.lt_of_lt_of_le hbt fW.size
  have hn1 : bs ≠ g1 := by have := HG1.out; omega
  have hn2 : bs ≠ g2 := by have := HG1.out; have := HE2.out; omega
  have hn3 : bs ≠ g3 := by have := HG1.out; have := HE3.out; omega
  have hm1 : g1 ≠ bs := fun h => hn1 h.symm
  have hm2 : g2 ≠ bs := fun h => hn2 h.symm
  have hm3 : g3 ≠ bs := fun h => hn3 h.symm
  have HST := Lib.hid hst
  have HP := Lib.hid hP
  have HTEN := Lib.hid hten
  have HCEL := Lib.hid hcel
  have HRA := Lib.hid hra
  have HTO := Lib.hid hto
  have HROW := Lib.hid hrow
  have HKA := Lib.hid hka
  have HW := Lib.hid hW
  have HZ := Lib.hid hz
  have HSB := Lib.hid hsb
  have HV1 := Lib.hid hv1
  have HV2 := Lib.hid hv2
  clear hst hP hten hcel hra hto hrow hka hW hz hsb hv1 hv2
  go_enter Tryd.func75, Tryd.ntmps75
  go_upto_region 1 with fail
  rw [← HW.out]
  try rw [← show g3 = w.heap.size + 2 from by rw [HE3.out, HG1.out]]
  try rw [← show g2 = w.heap.size + 1 from by rw [HE2.out, HG1.out]]
  try rw [← HG1.out]
  have FQ := Lib.hid (Fr.refl No w3)
  obtain ⟨pb, hpb⟩ : ∃ q, hasV pr n = q := ⟨_, rfl⟩
  have HPB := Lib.hid hpb
  clear hpb
  obtain ⟨⟨s0, s1, s2, s3, s4, s5, s6, s7⟩, ⟨x0, x1, x2, x3, x4, x5, x6, x7, x8⟩, ⟨z0, z1, z2, z3, z4, z5, z6, z7⟩⟩ := HKA.out w3 FQ.out
  obtain ⟨⟨d0, d1, d2, d3⟩, hfz⟩ := HRA.out w3 FQ.out
  go_upto_region 2 with fail
  go_cut [14] from 15 to 32 (fun x wx => (∃ B : Bool, x = .bool B ∧ (True)) ∧ Fr No w3 wx)
  case first =>
    obtain ⟨q0, hq0⟩ : ∃ q : Bool, (n != wa) = q := ⟨_, rfl⟩
    obtain ⟨q1, hq1⟩ : ∃ q : Bool, (rn == wa) = q := ⟨_, rfl⟩
    all_goals rcases q0 with _ | _
    all_goals rcases q1 with _ | _
    all_goals go_region
    all_goals (try go_wp2_with fail)
    all_goals go_meet
    all_goals exact ⟨⟨_, rfl, trivial⟩, (by repeat (first | assumption | exact Fr.refl _ _ | refine Fr.alloc ?_ _ | refine Fr.drew ?_ | refine Fr.drewN ?_ _))⟩
  obtain ⟨⟨B, rfl, hB⟩, hcf⟩ := hcut
  replace FQ := Lib.hid (FQ.out.transNo hcf)
  clear hcf
  clear s0 s1 s2 s3 s4 s5 s6 s7 x0 x1 x2 x3 x4 x5 x6 x7 x8 z0 z1 z2 z3 z4 z5 z6 z7 hfz d0 d1 d2 d3
  obtain ⟨⟨s0, s1, s2, s3, s4, s5, s6, s7⟩, ⟨x0, x1, x2, x3, x4, x5, x6, x7, x8⟩, ⟨z0, z1, z2, z3, z4, z5, z6, z7⟩⟩ := HKA.out wc FQ.out
  obtain ⟨⟨d0, d1, d2, d3⟩, hfz⟩ := HRA.out wc FQ.out
  rcases B with _ | _
  rotate_left
  · go_wp2_with fail
    refine (no_any _ _).mono ?_
    rintro e w9 ⟨rfl, f9⟩
    have hz9 := HZ.out w9 (FQ.out.transNo f9)
    have f8 := fW.transNo (FQ.out.transNo f9)
    obtain ⟨z0, z1, z2, z3, z4, z5, z6, z7⟩ := st_cells (s := stZero) hz9
    simp only at z0 z1 z2 z3 z4 z5 z6 z7
    have q0 := hz9.frozen 0
    have q1 := hz9.frozen 1
    have q2 := hz9.frozen 2
    have q3 := hz9.frozen 3
    have q4 := hz9.frozen 4
    have q5 := hz9.frozen 5
    have q6 := hz9.frozen 6
    have q7 := hz9.frozen 7
    have HZ9 := Lib.hid hz9
    have F8 := Lib.hid f8
    clear hz9 f8
    go_wp2_with fail
    exact bodyPost_ret (v := .tuple #[.agg stZero.arr, .int .i64 4]) (runs_results stZero 4 g3 _ _ (st_fill (z := stZero) stZero HZ9.out) rfl rfl) rfl (StTo.no (by decide) ((st_fill_fr stZero F8.out hgz).mono fun _ h => h.elim) rfl)
  go_upto_region 4 with fail
  go_cut [36] from 37 to 46 (fun x wx => (∃ B : Bool, x = .bool B ∧ (True)) ∧ Fr No wc wx)
  case first =>
    go_wp2_with fail
    refine (HP.out _ _).mono ?_
    rintro e v5 ⟨rfl, f5⟩
    rw [HPB.out]
    clear s0 s1 s2 s3 s4 s5 s6 s7 x0 x1 x2 x3 x4 x5 x6 x7 x8 z0 z1 z2 z3 z4 z5 z6 z7 hfz d0 d1 d2 d3
    have FQ5 := Lib.hid (FQ.out.transNo f5)
    obtain ⟨⟨s0, s1, s2, s3, s4, s5, s6, s7⟩, ⟨x0, x1, x2, x3, x4, x5, x6, x7, x8⟩, ⟨z0, z1, z2, z3, z4, z5, z6, z7⟩⟩ := HKA.out v5 FQ5.out
    obtain ⟨⟨d0, d1, d2, d3⟩, hfz⟩ := HRA.out v5 FQ5.out
    rcases pb with _ | _
    all_goals (try go_wp2_with fail)
    all_goals go_meet
    all_goals exact ⟨⟨_, rfl, trivial⟩, (by repeat (first | assumption | exact Fr.refl _ _ | refine Fr.alloc ?_ _ | refine Fr.drew ?_ | refine Fr.drewN ?_ _))⟩
  obtain ⟨⟨B, rfl, hB⟩, hcf⟩ := hcut
  replace FQ := Lib.hid (FQ.out.transNo hcf)
  clear hcf
  clear s0 s1 s2 s3 s4 s5 s6 s7 x0 x1 x2 x3 x4 x5 x6 x7 x8 z0 z1 z2 z3 z4 z5 z6 z7 hfz d0 d1 d2 d3
  obtain ⟨⟨s0, s1, s2, s3, s4, s5, s6, s7⟩, ⟨x0, x1, x2, x3, x4, x5, x6, x7, x8⟩, ⟨z0, z1, z2, z3, z4, z5, z6, z7⟩⟩ := HKA.out wc FQ.out
  obtain ⟨⟨d0, d1, d2, d3⟩, hfz⟩ := HRA.out wc FQ.out
  rcases B with _ | _
  rotate_left
  · go_wp2_with fail
    refine (no_any _ _).mono ?_
    rintro e w9 ⟨rfl, f9⟩
    have hz9 := HZ.out w9 (FQ.out.transNo f9)
    have f8 := fW.transNo (FQ.out.transNo f9)
    obtain ⟨z0, z1, z2, z3, z4, z5, z6, z7⟩ := st_cells (s := stZero) hz9
    simp only at z0 z1 z2 z3 z4 z5 z6 z7
    have q0 := hz9.frozen 0
    have q1 := hz9.frozen 1
    have q2 := hz9.frozen 2
    have q3 := hz9.frozen 3
    have q4 := hz9.frozen 4
    have q5 := hz9.frozen 5
    have q6 := hz9.frozen 6
    have q7 := hz9.frozen 7
    have HZ9 := Lib.hid hz9
    have F8 := Lib.hid f8
    clear hz9 f8
    go_wp2_with fail
    exact bodyPost_ret (v := .tuple #[.agg stZero.arr, .int .i64 12]) (runs_results stZero 12 g3 _ _ (st_fill (z := stZero) stZero HZ9.out) rfl rfl) rfl (StTo.no (by decide) ((st_fill_fr stZero F8.out hgz).mono fun _ h => h.elim) rfl)
  go_upto_region 6 with fail
  go_wp2_with fail
  clear s0 s1 s2 s3 s4 s5 s6 s7 x0 x1 x2 x3 x4 x5 x6 x7 x8 z0 z1 z2 z3 z4 z5 z6 z7 hfz d0 d1 d2 d3
  go_loopw [7] (fun i wr => ∃ k : Nat, k ≤ mt ∧ i = .int .i64 k ∧ Fr No w3 wr) (fun i _ => mt - (intOf i).toNat)
  case atStart => exact ⟨0, Nat.zero_le _, rfl, FQ.out⟩
  obtain ⟨k, hk, rfl, hf⟩ := hrel
  replace FQ := Lib.hid hf
  clear hf
  obtain ⟨⟨s0, s1, s2, s3, s4, s5, s6, s7⟩, ⟨x0, x1, x2, x3, x4, x5, x6, x7, x8⟩, ⟨z0, z1, z2, z3, z4, z5, z6, z7⟩⟩ := HKA.out wr FQ.out
  obtain ⟨⟨d0, d1, d2, d3⟩, hfz⟩ := HRA.out wr FQ.out
  by_cases hlt : k < mt
  · have b1 : decide (k < mt) = true := decide_eq_true hlt
    have b2 : decide ((k : Int) < (mt : Int)) = true := decide_eq_true (by omega)
    have hix : (0 : Int) ≤ (k : Int) ∧ (k : Int) < (mt : Int) := by omega
    obtain ⟨b, t, rfl, hbG, hbl, hok, hcl⟩ := HTEN.out k hlt
    obtain ⟨r0, r1, r2, r3, r4, r5, r6, r7, r8, r9, r10, r11⟩ := hcl _ (fW.transNo FQ.out)
    obtain ⟨pl, sh, hm, sb, nx, tg, tp, wc_, we, wv, wf, wu⟩ := t
    simp only at r0 r1 r2 r3 r4 r5 r6 r7 r8 r9 r10 r11
    clear hcl hok
    have hk1 : g1 < wr.heap.size := Nat.lt_of_lt_of_le hl1 FQ.out.size
    have hk2 : g2 < wr.heap.size := Nat.lt_of_lt_of_le hl2 FQ.out.size
    have hk3 : g3 < wr.heap.size := Nat.lt_of_lt_of_le hl3 FQ.out.size
    go_upto_region 10 with fail
    go_cut [74] from 63 to 74 (fun x wx => (∃ B : Bool, x = .bool B) ∧ Fr No wr wx)
    case first =>
      obtain ⟨q0, hq0⟩ : ∃ q : Bool, (wc_ == (j : Int)) = q := ⟨_, rfl⟩
      all_goals rcases q0 with _ | _
      all_goals go_wp2_with fail
      all_goals go_meet
      all_goals exact ⟨⟨_, rfl⟩, (by repeat (first | assumption | exact Fr.refl _ _ | refine Fr.alloc ?_ _ | refine Fr.drew ?_ | refine Fr.drewN ?_ _))⟩
    obtain ⟨⟨B, rfl⟩, hcf⟩ := hcut
    replace FQ := Lib.hid (FQ.out.transNo hcf)
    clear hcf r0 r1 r2 r3 r4 r5 r6 r7 r8 r9 r10 r11
    clear s0 s1 s2 s3 s4 s5 s6 s7 x0 x1 x2 x3 x4 x5 x6 x7 x8 z0 z1 z2 z3 z4 z5 z6 z7 hfz d0 d1 d2 d3
    obtain ⟨⟨s0, s1, s2, s3, s4, s5, s6, s7⟩, ⟨x0, x1, x2, x3, x4, x5, x6, x7, x8⟩, ⟨z0, z1, z2, z3, z4, z5, z6, z7⟩⟩ := HKA.out wc FQ.out
    obtain ⟨⟨d0, d1, d2, d3⟩, hfz⟩ := HRA.out wc FQ.out
    rcases B with _ | _
    rotate_left
    · go_wp2_with fail
      refine (no_any _ _).mono ?_
      rintro e w9 ⟨rfl, f9⟩
      have hz9 := HZ.out w9 (FQ.out.transNo f9)
      have f8 := fW.transNo (FQ.out.transNo f9)
      obtain ⟨z0, z1, z2, z3, z4, z5, z6, z7⟩ := st_cells (s := stZero) hz9
      simp only at z0 z1 z2 z3 z4 z5 z6 z7
      have q0 := hz9.frozen 0
      have q1 := hz9.frozen 1
      have q2 := hz9.frozen 2
      have q3 := hz9.frozen 3
      have q4 := hz9.frozen 4
      have q5 := hz9.frozen 5
      have q6 := hz9.frozen 6
      have q7 := hz9.frozen 7
      have HZ9 := Lib.hid hz9
      have F8 := Lib.hid f8
      clear hz9 f8
      go_wp2_with fail
      exact bodyPost_ret (v := .tuple #[.agg stZero.arr, .int .i64 9]) (runs_results stZero 9 g3 _ _ (st_fill (z := stZero) stZero HZ9.out) rfl rfl) rfl (StTo.no (by decide) ((st_fill_fr stZero F8.out hgz).mono fun _ h => h.elim) rfl)
    go_wp2_with fail
    go_roundw
    case rel => exact ⟨k + 1, by omega, by go_num, FQ.out⟩
    case measure => simp [intOf]; omega
  · obtain rfl : k = mt := by omega
    have b1 : decide (k < k) = false := by simp
    have b2 : decide ((k : Int) < (k : Int)) = false := by simp
    go_upto_region 12 with fail
    go_cut [] from 78 to 87 (fun wx => wx = (((wr).setCell ⟨bs, j * 4 + 1, none⟩ (.int .i64 n)).setCell ⟨bs, j * 4 + 3, none⟩ (.int .i64 et)).drew)
    case first =>
      go_region
      go_wp2_with fail
      go_meet
      rfl
    subst hcut
    have hro9 := HROW.out.frNo (fW.transNo FQ.out)
    have hro9 := hro9.setA (t' := ⟨md, n, wa, si⟩) (u := (.int .i64 n)) (a := j * 4 + 1) (j := 1) (by decide) (by omega) rfl
    have hro9 := hro9.setA (t' := ⟨md, n, wa, et⟩) (u := (.int .i64 et)) (a := j * 4 + 3) (j := 3) (by decide) (by omega) rfl
    have hok9 := hro9.ok ⟨⟨HV1.out, HV2.out⟩, HTO.out.wa⟩
    have f9 : Fr G w (((wr).setCell ⟨bs, j * 4 + 1, none⟩ (.int .i64 n)).setCell ⟨bs, j * 4 + 3, none⟩ (.int .i64 et)) := (((fW.transNo FQ.out).mono (fun _ h => h.elim)).setCell (p := ⟨bs, j * 4 + 1, none⟩) (.inl hgb) _).setCell (p := ⟨bs, j * 4 + 3, none⟩) (.inl hgb) _
    have hz9 := ((HZ.out wr FQ.out).fr (fr_set _ ⟨bs, j * 4 + 1, none⟩ (.int .i64 n)) hm3).fr (fr_set _ ⟨bs, j * 4 + 3, none⟩ (.int .i64 et)) hm3
    have q0 := (HZ.out wr FQ.out).frozen 0
    have q1 := (HZ.out wr FQ.out).frozen 1
    have q2 := (HZ.out wr FQ.out).frozen 2
    have q3 := (HZ.out wr FQ.out).frozen 3
    have q4 := (HZ.out wr FQ.out).frozen 4
    have q5 := (HZ.out wr FQ.out).frozen 5
    have q6 := (HZ.out wr FQ.out).frozen 6
    have q7 := (HZ.out wr FQ.out).frozen 7
    have HRO9 := Lib.hid hro9
    have HOK9 := Lib.hid hok9
    have F9 := Lib.hid f9
    have HZ9 := Lib.hid hz9
    clear hro9 hok9 f9 hz9
    have T9 := Lib.hid (StTo.fill (s := ⟨tk, cn, Bt, k, dt, some ⟨bs, 0, none⟩, ms, ds, pr, ev, lo, hi⟩) (q := g3) (e := .returned (.tuple #[.agg (St.arr ⟨tk, cn, Bt, k, dt, some ⟨bs, 0, none⟩, ms, ds, pr, ev, lo, hi⟩), .int .i64 0])) HOK9.out F9.out hgz hG rfl)
    have T8 := Lib.hid (st_fill (q := g3) (z := stZero) ⟨tk, cn, Bt, k, dt, some ⟨bs, 0, none⟩, ms, ds, pr, ev, lo, hi⟩ HZ9.out)
    clear HOK9 F9 HZ9 HRO9
    go_wp2_with fail
    exact bodyPost_ret (v := .tuple #[.agg (St.arr ⟨tk, cn, Bt, k, dt, some ⟨bs, 0, none⟩, ms, ds, pr, ev, lo, hi⟩), .int .i64 0]) (runs_results ⟨tk, cn, Bt, k, dt, some ⟨bs, 0, none⟩, ms, ds, pr, ev, lo, hi⟩ 0 g3 _ _ (Blk.drewn T8.out) rfl rfl) rfl (StTo.drew T9.out)
end Go.Proofs.YtanhbebikcoliaaDoor
