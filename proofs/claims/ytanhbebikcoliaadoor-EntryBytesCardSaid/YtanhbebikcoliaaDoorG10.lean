/-
  Several texts in one: StT, StU, StV.
-/
import Derived.Test.YtanhbebikcoliaaDoorStR
/- States whose rows are new: Copied. -/
namespace Go.Proofs.YtanhbebikcoliaaDoor
open Go.ChangeShapes Go.WideShapes Go.ChangeAt Go.RowKit
set_option linter.unusedVariables false
def TsRowsL (nc nt : Nat) (xs : List Value) : Prop := ∀ i, i < nt → ∃ t : Ts, TsOk nc t ∧ ∀ j, j < 12 → xs[i * 12 + j]? = t.cells[j]?
def CsRowsL (nc nv : Nat) (xs : List Value) : Prop := ∀ i, i < nc → ∃ (m : Int) (r a : Nat) (s : Int), r < nv ∧ a < nv ∧ xs[i * 4]? = some (.int .i64 m) ∧ xs[i * 4 + 1]? = some (.int .i64 (r : Int)) ∧ xs[i * 4 + 2]? = some (.int .i64 (a : Int)) ∧ xs[i * 4 + 3]? = some (.int .i64 s)
theorem ts_info : (Tryd.prog.info? TTs).map (fun i => (i.zero.map fun z => z.cells.size, i.size, i.bytes)) = some (some 12, 12, 88) := by kernel_rfl
theorem cs_info : (Tryd.prog.info? TCs).map (fun i => (i.zero.map fun z => z.cells.size, i.size, i.bytes)) = some (some 4, 4, 32) := by kernel_rfl
theorem info_z {t : TypeId} {n s b : Nat} (h : (Tryd.prog.info? t).map (fun i => (i.zero.map fun z => z.cells.size, i.size, i.bytes)) = some (some n, s, b)) : ∃ i z, Tryd.prog.info? t = some i ∧ i.zero = some z ∧ z.cells.size = n ∧ i.size = s ∧ i.bytes = b := by
  cases hi : Tryd.prog.info? t with
  | none => rw [hi] at h; cases h
  | some i =>
    rw [hi] at h
    cases hz : i.zero with
    | none => simp [hz] at h
    | some z =>
      simp [hz] at h
      exact ⟨i, z, rfl, hz, h.1, h.2.1, h.2.2⟩
theorem ts_one {t : Ts} {u : Value} (h : u ∈ t.cells) : u.oneCell' = true := by
  simp only [Ts.cells, List.mem_cons, List.not_mem_nil, or_false] at h
  rcases h with rfl | rfl | rfl | rfl | rfl | rfl | rfl | rfl | rfl | rfl | rfl | rfl <;> rfl
theorem TsRowsL.one {nc nt : Nat} {xs : List Value} (h : TsRowsL nc nt xs) (hl : xs.length = nt * 12) : ∀ u ∈ xs, u.oneCell' = true := by
  intro u hu
  obtain ⟨k, hk, rfl⟩ := List.getElem_of_mem hu
  obtain ⟨t, -, ht⟩ := h (k / 12) (by omega)
  have h1 := ht (k % 12) (Nat.mod_lt _ (by decide))
  rw [show k / 12 * 12 + k % 12 = k from by omega, List.getElem?_eq_getElem hk] at h1
  exact ts_one (List.mem_of_getElem? h1.symm)
theorem CsRowsL.one {nc nv : Nat} {xs : List Value} (h : CsRowsL nc nv xs) (hl : xs.length = nc * 4) : ∀ u ∈ xs, u.oneCell' = true := by
  intro u hu
  obtain ⟨k, hk, rfl⟩ := List.getElem_of_mem hu
  obtain ⟨m, r, a, s, -, -, c0, c1, c2, c3⟩ := h (k / 4) (by omega)
  have h4 : k % 4 = 0 ∨ k % 4 = 1 ∨ k % 4 = 2 ∨ k % 4 = 3 := by omega
  have hg := List.getElem?_eq_getElem hk
  rcases h4 with h4 | h4 | h4 | h4
  · rw [show k / 4 * 4 = k from by omega, hg] at c0; injection c0 with c0; rw [c0]; rfl
  · rw [show k / 4 * 4 + 1 = k from by omega, hg] at c1; injection c1 with c1; rw [c1]; rfl
  · rw [show k / 4 * 4 + 2 = k from by omega, hg] at c2; injection c2 with c2; rw [c2]; rfl
  · rw [show k / 4 * 4 + 3 = k from by omega, hg] at c3; injection c3 with c3; rw [c3]; rfl
theorem size_of_rows {cur : Array Value} {k : Nat} {u : Value} (h : cur[k]? = some u) : k < cur.size := (Array.getElem?_eq_some_iff.1 h).1
/-- What is copied: the cells of the rows. -/
theorem StOk.src {w : World} {G : Nat → Prop} {c : Cf} {s : St} (h : StOk w G c s) : ∃ xt xs : List Value, xt.length = s.mt * 12 ∧ xs.length = s.ms * 4 ∧ Rd w w.heap.size s.Bt xt ∧ Rd w w.heap.size s.Bs xs ∧ TsRowsL c.nc c.nt xt ∧ CsRowsL c.nc c.nv xs := by
  obtain ⟨h1, h2, -, -, ⟨b, cur, e1, -, e3, e4⟩, h9, -⟩ := h
  have hsz : c.nc * 4 ≤ cur.size := by
    rcases Nat.eq_zero_or_pos c.nc with h0 | h0
    · omega
    · obtain ⟨m, r, a, s, -, -, -, -, -, c3⟩ := e4 (c.nc - 1) (by omega)
      have := size_of_rows c3
      omega
  have hcs : CsRowsL c.nc c.nv (cur.toList.take (c.nc * 4)) := by
    intro i hi
    obtain ⟨m, r, a, s, hr, ha, c0, c1, c2, c3⟩ := e4 i hi
    refine ⟨m, r, a, s, hr, ha, ?_, ?_, ?_, ?_⟩
    all_goals rw [List.getElem?_take, if_pos (by omega), Array.getElem?_toList]
    · exact c0
    · exact c1
    · exact c2
    · exact c3
  have hrs : Rd w w.heap.size s.Bs (cur.toList.take (c.nc * 4)) := by
    rw [e1]
    refine .inr ⟨b, 0, rfl, e3.lt, fun j hj => ?_⟩
    rw [Nat.zero_add, e3.cell, List.getElem_take, Array.getElem_toList, Array.getElem?_eq_getElem]
  have hls : (cur.toList.take (c.nc * 4)).length = s.ms * 4 := by rw [List.length_take, Array.length_toList, h2]; omega
  rcases Nat.eq_zero_or_pos c.nt with h0 | h0
  · exact ⟨[], _, by rw [h1, h0]; rfl, hls, .inl rfl, hrs, fun i hi => by omega, hcs⟩
  · obtain ⟨b', cur', k1, -, k3, k4⟩ := h9.resolve_left (by omega)
    have hsz' : c.nt * 12 ≤ cur'.size := by
      obtain ⟨t, -, ht⟩ := k4 (c.nt - 1) (by omega)
      have h11 := ht 11 (by decide)
      have := size_of_rows (u := .int .i64 t.wu) h11
      omega
    refine ⟨cur'.toList.take (c.nt * 12), _, ?_, hls, ?_, hrs, ?_, hcs⟩
    · rw [List.length_take, Array.length_toList, h1]; omega
    · rw [k1]
      refine .inr ⟨b', 0, rfl, k3.lt, fun j hj => ?_⟩
      rw [Nat.zero_add, k3.cell, List.getElem_take, Array.getElem_toList, Array.getElem?_eq_getElem]
    · intro i hi
      obtain ⟨t, ht, hc⟩ := k4 i hi
      refine ⟨t, ht, fun j hj => ?_⟩
      rw [List.getElem?_take, if_pos (by omega), Array.getElem?_toList]
      exact hc j hj
theorem ownN_blk {w : World} {F : Nat → Prop} {e : TypeId} {size n c : Nat} {A : Option Addr} {xs : List Value} (h : OwnN w F e size (.slice A n c) n xs) : (A = none ∧ n = 0) ∨ ∃ b cur, A = some ⟨b, 0, none⟩ ∧ F b ∧ Blk w b e cur ∧ ∀ k, k < n * size → cur[k]? = xs[k]? := by
  rcases h.1.2 with ⟨hv, h0⟩ | ⟨g, cap, cur, hv, hb, hgg, hnc, hcm, hcs, htk⟩
  · injection hv with e1 e2 e3
    exact .inl ⟨e1, h0⟩
  · injection hv with e1 e2 e3
    subst e1 e3
    refine .inr ⟨g, cur, rfl, h.2 g rfl, hgg, fun k hk => ?_⟩
    rw [← htk, List.getElem?_take, if_pos hk, Array.getElem?_toList]
/-- A state of new rows. -/
theorem StOk.made {w : World} {F : Nat → Prop} {c : Cf} {s : St} {xt xs : List Value} (h1 : s.mt = c.nt) (h2 : s.ms = c.nc) (hnc : 1 ≤ c.nc)
    (ht : OwnN w F TTs 12 (.slice s.Bt s.mt s.dt) s.mt xt) (hs : OwnN w F TCs 4 (.slice s.Bs s.ms s.ds) s.ms xs) (hxt : TsRowsL c.nc c.nt xt) (hxs : CsRowsL c.nc c.nv xs) : StOk w F c s := by
  refine ⟨h1, h2, ht.cap, hs.cap, ?_, ?_, ?_⟩
  · rcases ownN_blk hs with ⟨-, h0⟩ | ⟨b, cur, k1, k2, k3, k4⟩
    · omega
    · refine ⟨b, cur, k1, k2, k3, fun i hi => ?_⟩
      obtain ⟨m, r, a, s', hr, ha, c0, c1, c2, c3⟩ := hxs i hi
      exact ⟨m, r, a, s', hr, ha, (k4 _ (by rw [h2]; omega)).trans c0, (k4 _ (by rw [h2]; omega)).trans c1, (k4 _ (by rw [h2]; omega)).trans c2, (k4 _ (by rw [h2]; omega)).trans c3⟩
  · rcases ownN_blk ht with ⟨-, h0⟩ | ⟨b, cur, k1, k2, k3, k4⟩
    · exact .inl (by omega)
    · refine .inr ⟨b, cur, k1, k2, k3, fun i hi => ?_⟩
      obtain ⟨t, hok, hc⟩ := hxt i hi
      exact ⟨t, hok, fun j hj => (k4 _ (by rw [h1]; omega)).trans (hc j hj)⟩
  · intro hn
    rcases ownN_blk ht with ⟨-, h0⟩ | ⟨b, cur, k1, -⟩
    · exact h0
    · rw [hn] at k1; cases k1
theorem OwnN.copied {w w1 : World} {e : TypeId} {size m : Nat} {news : List Value} {v' : Value} (happ : AppendedN (w.alloc (.cells #[] e)) 0 e size (.slice (some ⟨w.heap.size, 0, none⟩) 0 0) 0 [] news m v' w1) : OwnN w1 (fun i => w.heap.size ≤ i) e size v' m news ∧ Fr No w w1 := by
  have ho : OwnN (w.alloc (.cells #[] e)) (fun i => w.heap.size ≤ i) e size (.slice (some ⟨w.heap.size, 0, none⟩) 0 0) 0 [] := ⟨World.ownsRow_made w #[] 0 (Nat.zero_le _) (Nat.zero_le _) (by simp), fun g hg => by simp [Value.ownBlock] at hg; omega⟩
  obtain ⟨h1, h2⟩ := ho.appended happ
  rw [List.nil_append, Nat.zero_add] at h1
  refine ⟨h1.mono fun i hi => ?_, (fr_alloc w _).transNew h2 fun i hi => hi⟩
  rcases hi with hi | hi
  · exact hi
  · have := hi.1; simp at this; omega
/-- The blocks of a state, bounded. -/
theorem StOk.bound {w : World} {G : Nat → Prop} {c : Cf} {s : St} (h : StOk w G c s) : StOk w (fun i => G i ∧ i < w.heap.size) c s := by
  obtain ⟨h1, h2, h3, h4, ⟨b, cur, h5, h6, h7, h8⟩, h9, h10⟩ := h
  refine ⟨h1, h2, h3, h4, ⟨b, cur, h5, ⟨h6, h7.lt⟩, h7, h8⟩, h9.imp id ?_, h10⟩
  rintro ⟨b, cur, h5, h6, h7, h8⟩
  exact ⟨b, cur, h5, ⟨h6, h7.lt⟩, h7, h8⟩
theorem copied_results (s : St) (g : Nat) (ts : Array Value) (W : World) (hb : Blk W g TSt s.arr) (h2 : ts[2]?.getD undef = .pointer (some ⟨g, 0, none⟩)) :
    (results Tryd.f65 ts).run Tryd.prog W = .ok (.agg s.arr) W := by
  obtain ⟨c0, c1, c2, c3, c4, c5, c6, c7⟩ := st_cells hb
  clear hb
  simp [results, Tryd.results65, go_sem, h2, c0, c1, c2, c3, c4, c5, c6, c7]
theorem new_results (s : St) (g : Nat) (ts : Array Value) (W : World) (hb : Blk W g TSt s.arr) (h2 : ts[2]?.getD undef = .pointer (some ⟨g, 0, none⟩)) :
    (results Tryd.f57 ts).run Tryd.prog W = .ok (.agg s.arr) W := by
  obtain ⟨c0, c1, c2, c3, c4, c5, c6, c7⟩ := st_cells hb
  clear hb
  simp [results, Tryd.results57, go_sem, h2, c0, c1, c2, c3, c4, c5, c6, c7]
/-- A state that was made since w. -/
def NewSt (w : World) (c : Cf) (e : Ending) (w' : World) : Prop := ∃ s : St, e = .returned (.agg s.arr) ∧ StOk w' (fun i => w.heap.size ≤ i ∧ i < w'.heap.size) c s ∧ Fr No w w'
end Go.Proofs.YtanhbebikcoliaaDoor
/- Copied. -/
namespace Go.Proofs.YtanhbebikcoliaaDoor
open Go.ChangeShapes Go.WideShapes Go.ChangeAt Go.RowKit
set_option linter.unusedVariables false
theorem NewSt.fill {w W : World} {c : Cf} {s : St} {q B : Nat} (hok : StOk W (fun i => B ≤ i ∧ i < W.heap.size) c s) (hf : Fr No w W) (hq : w.heap.size ≤ q) (hB : q < B) : NewSt w c (.returned (.agg s.arr)) (World.setCell (World.setCell (World.setCell (World.setCell (World.setCell (World.setCell (World.setCell (World.setCell W ⟨q, 0, none⟩ (.int .i64 s.tk)) ⟨q, 1, none⟩ (.int .i64 s.cn)) ⟨q, 2, none⟩ (.slice s.Bt s.mt s.dt)) ⟨q, 3, none⟩ (.slice s.Bs s.ms s.ds)) ⟨q, 4, none⟩ (.int .i64 s.pr)) ⟨q, 5, none⟩ (.int .i64 s.ev)) ⟨q, 6, none⟩ (.int .i64 s.lo)) ⟨q, 7, none⟩ (.int .i64 s.hi)) := by
  have hff : Fr (fun i => i = q) W (World.setCell (World.setCell (World.setCell (World.setCell (World.setCell (World.setCell (World.setCell (World.setCell W ⟨q, 0, none⟩ (.int .i64 s.tk)) ⟨q, 1, none⟩ (.int .i64 s.cn)) ⟨q, 2, none⟩ (.slice s.Bt s.mt s.dt)) ⟨q, 3, none⟩ (.slice s.Bs s.ms s.ds)) ⟨q, 4, none⟩ (.int .i64 s.pr)) ⟨q, 5, none⟩ (.int .i64 s.ev)) ⟨q, 6, none⟩ (.int .i64 s.lo)) ⟨q, 7, none⟩ (.int .i64 s.hi)) := (Fr.setCell (Fr.setCell (Fr.setCell (Fr.setCell (Fr.setCell (Fr.setCell (Fr.setCell (Fr.setCell (Fr.refl (fun i => i = q) W) (p := ⟨q, 0, none⟩) (.inl rfl) _) (p := ⟨q, 1, none⟩) (.inl rfl) _) (p := ⟨q, 2, none⟩) (.inl rfl) _) (p := ⟨q, 3, none⟩) (.inl rfl) _) (p := ⟨q, 4, none⟩) (.inl rfl) _) (p := ⟨q, 5, none⟩) (.inl rfl) _) (p := ⟨q, 6, none⟩) (.inl rfl) _) (p := ⟨q, 7, none⟩) (.inl rfl) _)
  refine ⟨s, rfl, ?_, st_fill_fr s hf hq⟩
  have hsz := hff.size
  obtain ⟨h1, h2, h3, h4, ⟨b, cur, h5, h6, h7, h8⟩, h9, h10⟩ := hok
  refine ⟨h1, h2, h3, h4, ⟨b, cur, h5, ⟨by have := h6.1; omega, Nat.lt_of_lt_of_le h6.2 hsz⟩, h7.fr hff (fun e => by have := h6.1; have e : b = q := e; omega), h8⟩, h9.imp id ?_, h10⟩
  rintro ⟨b, cur, h5, h6, h7, h8⟩
  exact ⟨b, cur, h5, ⟨by have := h6.1; omega, Nat.lt_of_lt_of_le h6.2 hsz⟩, h7.fr hff (fun e => by have := h6.1; have e : b = q := e; omega), h8⟩
set_option maxRecDepth 100000 in
set_option maxHeartbeats 8000000 in
theorem copied_any {w : World} {G : Nat → Prop} {c : Cf} {s : St} (hs : StOk w G c s) (hnc : 1 ≤ c.nc) (hnt : c.nt ≤ 16) (hnc2 : c.nc ≤ 16) :
    Calls Tryd.prog 65 #[.agg s.arr] w (NewSt w c) := by
  obtain ⟨it, zt, hit, hz0t, hzst, hz1t, hz2t⟩ := info_z ts_info
  obtain ⟨ic, zc, hic, hz0c, hzsc, hz1c, hz2c⟩ := info_z cs_info
  obtain ⟨xt, xs, hxtl, hxsl, hrt, hrs, hrowt, hrows⟩ := hs.src
  have honet := hrowt.one (by rw [hxtl, hs.mt])
  have hones := hrows.one (by rw [hxsl, hs.ms])
  have hnil := hs.nil
  have hnilc : s.Bs = none → s.ms = 0 := fun hn => by obtain ⟨b, cur, e1, -⟩ := hs.cells; rw [hn] at e1; cases e1
  have hms := hs.ms
  have hmt := hs.mt
  obtain ⟨rg, nz, nc, nt, nv, le, bk, bz, bc, bv, cz, cc, ct, cv, At, Ar, nr, cr, Ao, no_, co, bl⟩ := c
  obtain ⟨tk, cn, Bt, mt, dt, Bs, ms, ds, pr, ev, lo, hi⟩ := s
  simp only at *
  subst hms hmt
  clear hs
  obtain ⟨w1, hw1⟩ : ∃ w1, w1 = w.alloc (.cells #[.int .i64 tk, .int .i64 cn, .slice Bt mt dt, .slice Bs ms ds, .int .i64 pr, .int .i64 ev, .int .i64 lo, .int .i64 hi] TSt) := ⟨_, rfl⟩
  obtain ⟨g1, hg1⟩ : ∃ g1, g1 = w.heap.size := ⟨_, rfl⟩
  have hb1 : Blk w1 g1 TSt #[.int .i64 tk, .int .i64 cn, .slice Bt mt dt, .slice Bs ms ds, .int .i64 pr, .int .i64 ev, .int .i64 lo, .int .i64 hi] := by rw [hw1, hg1]; exact Blk.new _ _ _
  have f1 : Fr No w w1 := by rw [hw1]; exact fr_alloc _ _
  have hs1 : w1.heap.size = g1 + 1 := by rw [hw1, hg1]; simp
  obtain ⟨w2, hw2⟩ : ∃ w2, w2 = w1.alloc (.cells #[.int .i64 0, .int .i64 0, .slice none 0 0, .slice none 0 0, .int .i64 0, .int .i64 0, .int .i64 0, .int .i64 0] TSt) := ⟨_, rfl⟩
  obtain ⟨g2, hg2⟩ : ∃ g2, g2 = w1.heap.size := ⟨_, rfl⟩
  have hb2 : Blk w2 g2 TSt #[.int .i64 0, .int .i64 0, .slice none 0 0, .slice none 0 0, .int .i64 0, .int .i64 0, .int .i64 0, .int .i64 0] := by rw [hw2, hg2]; exact Blk.new _ _ _
  have f2 : Fr No w1 w2 := by rw [hw2]; exact fr_alloc _ _
  have hs2 : w2.heap.size = g2 + 1 := by rw [hw2, hg2]; simp
  have hB1 : Blk w2 g1 TSt #[.int .i64 tk, .int .i64 cn, .slice Bt mt dt, .slice Bs ms ds, .int .i64 pr, .int .i64 ev, .int .i64 lo, .int .i64 hi] := hb1.fr ((Fr.refl No _).transNo f2) (fun h => h)
  have hB2 : Blk w2 g2 TSt #[.int .i64 0, .int .i64 0, .slice none 0 0, .slice none 0 0, .int .i64 0, .int .i64 0, .int .i64 0, .int .i64 0] := hb2.fr (Fr.refl No _) (fun h => h)
  have fW : Fr No w w2 := ((Fr.refl No w).transNo f1).transNo f2
  have he2 : g2 = g1 + 1 := by rw [hg2, hs1]
  have hka : ∀ V, Fr No w2 V → (V.cell? ⟨g1, 0, none⟩ = some (.int .i64 tk) ∧ V.cell? ⟨g1, 1, none⟩ = some (.int .i64 cn) ∧ V.cell? ⟨g1, 2, none⟩ = some (.slice Bt mt dt) ∧ V.cell? ⟨g1, 3, none⟩ = some (.slice Bs ms ds) ∧ V.cell? ⟨g1, 4, none⟩ = some (.int .i64 pr) ∧ V.cell? ⟨g1, 5, none⟩ = some (.int .i64 ev) ∧ V.cell? ⟨g1, 6, none⟩ = some (.int .i64 lo) ∧ V.cell? ⟨g1, 7, none⟩ = some (.int .i64 hi)) ∧ (V.cell? ⟨g2, 0, none⟩ = some (.int .i64 0) ∧ V.cell? ⟨g2, 1, none⟩ = some (.int .i64 0) ∧ V.cell? ⟨g2, 2, none⟩ = some (.slice none 0 0) ∧ V.cell? ⟨g2, 3, none⟩ = some (.slice none 0 0) ∧ V.cell? ⟨g2, 4, none⟩ = some (.int .i64 0) ∧ V.cell? ⟨g2, 5, none⟩ = some (.int .i64 0) ∧ V.cell? ⟨g2, 6, none⟩ = some (.int .i64 0) ∧ V.cell? ⟨g2, 7, none⟩ = some (.int .i64 0)) := fun V hf => ⟨(let k := hB1.fr hf (fun h => h); ⟨k.cell 0, k.cell 1, k.cell 2, k.cell 3, k.cell 4, k.cell 5, k.cell 6, k.cell 7⟩), (let k := hB2.fr hf (fun h => h); ⟨k.cell 0, k.cell 1, k.cell 2, k.cell 3, k.cell 4, k.cell 5, k.cell 6, k.cell 7⟩)⟩
  have hW : w2 = (w.alloc (.cells #[.int .i64 tk, .int .i64 cn, .slice Bt mt dt, .slice Bs ms ds, .int .i64 pr, .int .i64 ev, .int .i64 lo, .int .i64 hi] TSt)).alloc (.cells #[.int .i64 0, .int .i64 0, .slice none 0 0, .slice none 0 0, .int .i64 0, .int .i64 0, .int .i64 0, .int .i64 0] TSt) := by rw [hw2, hw1]
  have hl1 : g1 < w2.heap.size := hB1.lt
  have hl2 : g2 < w2.heap.size := hB2.lt
  clear hw1 hb1 hs1 hw2 hb2 hs2
  have HG1 := Lib.hid hg1
  have HG2 := Lib.hid hg2
  have HE2 := Lib.hid he2
  clear hg1 hg2 he2
  have hsb := fun V (hV : Fr No w2 V) => hB1.fr hV (fun h => h)
  have hz := fun V (hV : Fr No w2 V) => hB2.fr hV (fun h => h)
  have hgz : w.heap.size ≤ g2 := by rw [HE2.out, HG1.out]; omega
  have hsg : w.heap.size ≤ g1 := by rw [HG1.out]; omega
  have hzg : g2 ≠ g1 := by rw [HE2.out]; omega
  have HRT := Lib.hid hrt
  have HRS := Lib.hid hrs
  have HROWT := Lib.hid hrowt
  have HROWS := Lib.hid hrows
  have HONET := Lib.hid honet
  have HONES := Lib.hid hones
  have HNIL := Lib.hid hnil
  have HNILC := Lib.hid hnilc
  have HKA := Lib.hid hka
  have HW := Lib.hid hW
  have HSB := Lib.hid hsb
  have HZ := Lib.hid hz
  clear hrt hrs hrowt hrows honet hones hnil hnilc hka hW hsb hz
  go_enter Tryd.func65, Tryd.ntmps65
  go_upto_region 1 with fail
  rw [← HW.out]
  try rw [← show g2 = w.heap.size + 1 from by rw [HE2.out, HG1.out]]
  try rw [← HG1.out]
  obtain ⟨⟨s0, s1, s2, s3, s4, s5, s6, s7⟩, ⟨z0, z1, z2, z3, z4, z5, z6, z7⟩⟩ := HKA.out w2 (Fr.refl _ _)
  have p2 := (HSB.out w2 (Fr.refl _ _)).frozen 2
  go_wp2_with (at_builtin; refine wpList_append_rdN _ rfl (.tmp 3) (.tmp 5) _ rfl 0 TTs it zt 12 88 Tryd.underlying53 hit hz0t hz1t hz2t hzst (by decide) (.slice (some ⟨w2.heap.size, 0, none⟩) 0 0) 0 [] rfl ?a1 w.heap.size Bt mt dt xt rfl ?a2 ?a3 ?a4 HONET.out ?a5 ?a6 (Nat.zero_le _) ?_)
  case a1 => exact World.ownsRow_made w2 #[] 0 (Nat.zero_le _) (Nat.zero_le _) (by simp)
  case a2 => exact HNIL.out
  case a3 => exact HRT.out.frNo (fW.transNo (fr_alloc _ _)) (Nat.le_refl _)
  case a4 => exact hxtl
  case a5 => unfold maxLen; omega
  case a6 => omega
  intro v1 w3 happ
  obtain ⟨o1, f3⟩ := OwnN.copied happ
  obtain ⟨A1, c1, rfl, -⟩ := o1.form
  clear happ s0 z0 s1 z1 s2 z2 s3 z3 s4 z4 s5 z5 s6 z6 s7 z7 p2
  obtain ⟨⟨s0, s1, s2, s3, s4, s5, s6, s7⟩, ⟨z0, z1, z2, z3, z4, z5, z6, z7⟩⟩ := HKA.out w3 f3
  have p2 := (HSB.out w3 f3).frozen 2
  have O1 := Lib.hid o1
  have ng : ∀ g, (Value.slice A1 mt c1).ownBlock = some g → ¬ (g = g1) := fun g hg e => by have := o1.2 g hg; simp only at this; subst e; omega
  clear o1
  have NG := Lib.hid ng
  clear ng
  have hl1' : g1 < w3.heap.size := Nat.lt_of_lt_of_le hl1 f3.size
  have hl2' : g2 < w3.heap.size := Nat.lt_of_lt_of_le hl2 f3.size
  go_upto_region 2 with fail
  obtain ⟨w4, hw4⟩ : ∃ w4, w4 = w3.setCell ⟨g1, 2, none⟩ (.slice A1 mt c1) := ⟨_, rfl⟩
  rw [← hw4]
  have f4 : Fr (fun i => i = g1) w3 w4 := by rw [hw4]; exact fr_set w3 ⟨g1, 2, none⟩ _
  have hb4 : Blk w4 g1 TSt (St.arr ⟨tk, cn, A1, mt, c1, Bs, ms, ds, pr, ev, lo, hi⟩) := by rw [hw4]; exact Blk.cv ((HSB.out w3 f3).set_ 2 _) rfl
  have hz4 : Blk w4 g2 TSt stZero.arr := (HZ.out w3 f3).fr f4 hzg
  have f04 : Fr No w w4 := (fW.transNo f3).transNew f4 (fun i hi => by have hi : i = g1 := hi; omega)
  have o4 := O1.out.fr' f4 NG.out
  clear hw4 s0 z0 s1 z1 s2 z2 s3 z3 s4 z4 s5 z5 s6 z6 s7 z7 p2
  have f24 : w2.heap.size ≤ w4.heap.size := Nat.le_trans f3.size f4.size
  have HB4 := Lib.hid hb4
  have HZ4 := Lib.hid hz4
  have O4 := Lib.hid o4
  clear hb4 hz4 o4
  clear O1
  obtain ⟨s0, s1, s2, s3, s4, s5, s6, s7⟩ := st_cells HB4.out
  simp only at s0 s1 s2 s3 s4 s5 s6 s7
  have p3 := HB4.out.frozen 3
  have hl4 := HB4.out.lt
  go_wp2_with (at_builtin; refine wpList_append_rdN _ rfl (.tmp 8) (.tmp 10) _ rfl 0 TCs ic zc 4 32 Tryd.underlying54 hic hz0c hz1c hz2c hzsc (by decide) (.slice (some ⟨w4.heap.size, 0, none⟩) 0 0) 0 [] rfl ?b1 w.heap.size Bs ms ds xs rfl ?b2 ?b3 ?b4 HONES.out ?b5 ?b6 (Nat.zero_le _) ?_)
  case b1 => exact World.ownsRow_made w4 #[] 0 (Nat.zero_le _) (Nat.zero_le _) (by simp)
  case b2 => exact HNILC.out
  case b3 => exact HRS.out.frNo (f04.transNo (fr_alloc _ _)) (Nat.le_refl _)
  case b4 => exact hxsl
  case b5 => unfold maxLen; omega
  case b6 => omega
  intro v2 w5 happ
  obtain ⟨o5, f5⟩ := OwnN.copied happ
  obtain ⟨A2, c2, rfl, -⟩ := o5.form
  clear happ s0 s1 s2 s3 s4 s5 s6 s7 p3
  have hb5 := HB4.out.fr f5 (fun h => h)
  have hz5 := HZ4.out.fr f5 (fun h => h)
  have p3 := hb5.frozen 3
  obtain ⟨s0, s1, s2, s3, s4, s5, s6, s7⟩ := st_cells hb5
  simp only at s0 s1 s2 s3 s4 s5 s6 s7
  have O5 := Lib.hid (OwnN.mono (G := fun i => w2.heap.size ≤ i) o5 (fun i hi => Nat.le_trans f24 hi))
  have O4 := Lib.hid (O4.out.frNo f5)
  have ng5 : ∀ g, (Value.slice A2 ms c2).ownBlock = some g → ¬ (g = g1) := fun g hg e => by have h1 := o5.2 g hg; simp only at h1; subst e; omega
  clear o5
  have NG5 := Lib.hid ng5
  have HB5 := Lib.hid hb5
  have HZ5 := Lib.hid hz5
  clear ng5 hb5 hz5
  go_upto_region 3 with fail
  obtain ⟨w6, hw6⟩ : ∃ w6, w6 = w5.setCell ⟨g1, 3, none⟩ (.slice A2 ms c2) := ⟨_, rfl⟩
  rw [← hw6]
  have f6 : Fr (fun i => i = g1) w5 w6 := by rw [hw6]; exact fr_set w5 ⟨g1, 3, none⟩ _
  have hb6 : Blk w6 g1 TSt (St.arr ⟨tk, cn, A1, mt, c1, A2, ms, c2, pr, ev, lo, hi⟩) := by rw [hw6]; exact Blk.cv (HB5.out.set_ 3 _) rfl
  have hz6 : Blk w6 g2 TSt stZero.arr := HZ5.out.fr f6 hzg
  have f06 : Fr No w w6 := (f04.transNo f5).transNew f6 (fun i hi => by have hi : i = g1 := hi; omega)
  have o6 := O4.out.fr' f6 NG.out
  have oz6 := O5.out.fr' f6 NG5.out
  clear hw6 s0 s1 s2 s3 s4 s5 s6 s7 p3
  have hok := StOk.bound (StOk.made (c := ⟨rg, nz, ms, mt, nv, le, bk, bz, bc, bv, cz, cc, ct, cv, At, Ar, nr, cr, Ao, no_, co, bl⟩) (s := ⟨tk, cn, A1, mt, c1, A2, ms, c2, pr, ev, lo, hi⟩) rfl rfl hnc o6 oz6 HROWT.out HROWS.out)
  obtain ⟨s0, s1, s2, s3, s4, s5, s6, s7⟩ := st_cells hb6
  simp only at s0 s1 s2 s3 s4 s5 s6 s7
  obtain ⟨z0, z1, z2, z3, z4, z5, z6, z7⟩ := st_cells (s := stZero) hz6
  simp only at z0 z1 z2 z3 z4 z5 z6 z7
  have q0 := hz6.frozen 0
  have q1 := hz6.frozen 1
  have q2 := hz6.frozen 2
  have q3 := hz6.frozen 3
  have q4 := hz6.frozen 4
  have q5 := hz6.frozen 5
  have q6 := hz6.frozen 6
  have q7 := hz6.frozen 7
  have hq6 := hz6
  clear o6 oz6 hb6
  have HOK := Lib.hid hok
  have HZ6 := Lib.hid hz6
  clear hok hz6
  clear hq6
  go_wp2_with fail
  have T8 := Lib.hid (st_fill (q := g2) (z := stZero) ⟨tk, cn, A1, mt, c1, A2, ms, c2, pr, ev, lo, hi⟩ HZ6.out)
  have T9 := Lib.hid (NewSt.fill (q := g2) HOK.out f06 hgz hl2)
  exact bodyPost_ret (v := .agg (St.arr ⟨tk, cn, A1, mt, c1, A2, ms, c2, pr, ev, lo, hi⟩)) (copied_results ⟨tk, cn, A1, mt, c1, A2, ms, c2, pr, ev, lo, hi⟩ g2 _ _ T8.out rfl) rfl T9.out
end Go.Proofs.YtanhbebikcoliaaDoor
/- New. -/
namespace Go.Proofs.YtanhbebikcoliaaDoor
open Go.ChangeShapes Go.WideShapes Go.ChangeAt Go.RowKit
set_option linter.unusedVariables false
abbrev tsNew : Ts := ⟨false, false, -1, -1, -1, -1, 0, -1, 0, 0, 0, 0⟩
abbrev csNew : List Value := [.int .i64 1, .int .i64 0, .int .i64 0, .int .i64 0]
def rowsT (k : Nat) : List Value := (List.replicate k tsNew.cells).flatten
def rowsC (k : Nat) : List Value := (List.replicate k csNew).flatten
theorem rep_get {n : Nat} {r : List Value} (hr : r.length = n) : ∀ (k i j : Nat), i < k → j < n → (List.replicate k r).flatten[i * n + j]? = r[j]? := by
  intro k
  induction k with
  | zero => intro i j h; omega
  | succ k ih =>
    intro i j hi hj
    rw [List.replicate_succ, List.flatten_cons]
    rcases i with _ | i
    · rw [Nat.zero_mul, Nat.zero_add, List.getElem?_append_left (by omega)]
    · rw [List.getElem?_append_right (by rw [hr, Nat.succ_mul]; omega)]
      have : (i + 1) * n + j - r.length = i * n + j := by rw [hr, Nat.succ_mul]; omega
      rw [this]
      exact ih i j (by omega) hj
theorem rowsT_len (k : Nat) : (rowsT k).length = k * 12 := by simp [rowsT, Ts.cells]
theorem rowsC_len (k : Nat) : (rowsC k).length = k * 4 := by simp [rowsC]
theorem rowsT_succ (k : Nat) : rowsT (k + 1) = rowsT k ++ tsNew.cells := by simp [rowsT, List.replicate_succ']
theorem rowsC_succ (k : Nat) : rowsC (k + 1) = rowsC k ++ csNew := by simp [rowsC, List.replicate_succ']
theorem rowsT_ok (nc k : Nat) (h : 1 ≤ nc) : TsRowsL nc k (rowsT k) := fun i hi =>
  ⟨tsNew, ⟨⟨by decide, by show (-1 : Int) < _; omega⟩, ⟨by decide, by show (-1 : Int) < _; omega⟩, ⟨by decide, by show (-1 : Int) < _; omega⟩, ⟨by decide, by show (-1 : Int) < _; omega⟩, (fun h => by cases h), (fun h => by cases h), by unfold okI; decide⟩, fun j hj => rep_get rfl k i j hi hj⟩
theorem rowsC_ok (nv k : Nat) (h : 1 ≤ nv) : CsRowsL k nv (rowsC k) := fun i hi =>
  ⟨1, 0, 0, 0, h, h, rep_get (n := 4) rfl k i 0 hi (by decide), rep_get (n := 4) rfl k i 1 hi (by decide), rep_get (n := 4) rfl k i 2 hi (by decide), rep_get (n := 4) rfl k i 3 hi (by decide)⟩
theorem OwnN.apart {w : World} {F G : Nat → Prop} {e e' : TypeId} {s s' n n' : Nat} {v v' : Value} {xs xs' : List Value} (h1 : OwnN w F e s v n xs) (h2 : OwnN w G e' s' v' n' xs') (hne : e ≠ e') : ∀ g, v.ownBlock = some g → ¬ (v'.ownBlock = some g) := by
  intro g hg hg'
  rcases h1.1.2 with ⟨rfl, _⟩ | ⟨a, cap, cur, rfl, _, hh, _⟩
  · cases hg
  · rcases h2.1.2 with ⟨rfl, _⟩ | ⟨a', cap', cur', rfl, _, hh', _⟩
    · cases hg'
    · obtain rfl : a = g := by simpa [Value.ownBlock] using hg
      obtain rfl : a' = a := by simpa [Value.ownBlock] using hg'
      rw [hh] at hh'
      injection hh' with hh'
      injection hh' with _ ht
      exact hne ht
abbrev newArr (A : Option Addr) (k c : Nat) (A' : Option Addr) (m d : Nat) : Array Value := #[.int .i64 0, .int .i64 0, .slice A k c, .slice A' m d, .int .i64 1, .int .i64 0, .int .i64 0, .int .i64 0]
/-- A state under way. -/
structure NewR (w2 wr : World) (B g : Nat) (A : Option Addr) (k c : Nat) (A' : Option Addr) (m d : Nat) : Prop where
  blk : Blk wr g TSt (newArr A k c A' m d)
  ten : OwnN wr (fun i => B ≤ i) TTs 12 (.slice A k c) k (rowsT k)
  cel : OwnN wr (fun i => B ≤ i) TCs 4 (.slice A' m d) m (rowsC m)
  fr : Fr No w2 wr
  sz : B ≤ wr.heap.size
theorem app_row {w w' : World} {F : Nat → Prop} {e : TypeId} {size n m : Nat} {v v' : Value} {xs news : List Value} (h : OwnN w F e size v n xs) (ha : AppendedN w 0 e size v n xs news m v' w') : Fr (fun i => v.ownBlock = some i) w w' :=
  (Fr.refl (fun i => v.ownBlock = some i) w).grown ha.2.1 fun k hk => .inl hk
theorem NewR.tens {w2 wr w' : World} {B g : Nat} {A : Option Addr} {k c : Nat} {A' : Option Addr} {m d : Nat} {o : Obj} {v' : Value} (h : NewR w2 wr B g A k c A' m d) (hg : g < B) (hg2 : w2.heap.size ≤ g)
    (happ : AppendedN (wr.alloc o) 0 TTs 12 (.slice A k c) k (rowsT k) tsNew.cells 1 v' w') : ∃ A1 c1, v' = .slice A1 (k + 1) c1 ∧ NewR w2 (w'.setCell ⟨g, 2, none⟩ v') B g A1 (k + 1) c1 A' m d := by
  have h0 := h.ten.frNo (fr_alloc _ o)
  obtain ⟨o1, f1⟩ := h0.appended happ
  have f2 := app_row h0 happ
  have hsz := h.sz
  have hs2 := f1.size
  simp at hs2
  obtain ⟨A1, c1, rfl, -⟩ := o1.form
  have hb : Blk w' g TSt (newArr A k c A' m d) := (h.blk.fr (fr_alloc _ o) (fun h => h)).fr f1 (fun h => by omega)
  have hF : ∀ i, i = g → ¬ B ≤ i := fun i hi => by omega
  refine ⟨A1, c1, rfl, Blk.cv (hb.set_ 2 _) rfl, ?_, ?_, ?_, ?_⟩
  · rw [rowsT_succ]
    refine ⟨((o1.fr' (fr_set w' ⟨g, 2, none⟩ _) ?_)).1, fun b hb => ?_⟩
    · intro b hb e
      have h1 := o1.2 b hb
      have e : b = g := e
      simp at h1
      omega
    · have h1 := o1.2 b hb
      simp at h1
      omega
  · have o2 := (h.cel.frNo (fr_alloc _ o)).fr' f2 (OwnN.apart (h.cel.frNo (fr_alloc _ o)) h0 (by decide))
    exact o2.fr' (fr_set w' ⟨g, 2, none⟩ _) (fun b hb e => by have h1 := o2.2 b hb; have e : b = g := e; simp only at h1; omega)
  · have hs := h.fr.size
    exact ((h.fr.alloc o).transNew f1 (fun i hi => by omega)).transNew (fr_set w' ⟨g, 2, none⟩ _) (fun i hi => by have hi : i = g := hi; omega)
  · have := (fr_set w' ⟨g, 2, none⟩ (.slice A1 (k + 1) c1)).size
    omega
theorem NewR.cels {w2 wr w' : World} {B g : Nat} {A : Option Addr} {k c : Nat} {A' : Option Addr} {m d : Nat} {o : Obj} {v' : Value} (h : NewR w2 wr B g A k c A' m d) (hg : g < B) (hg2 : w2.heap.size ≤ g)
    (happ : AppendedN (wr.alloc o) 0 TCs 4 (.slice A' m d) m (rowsC m) csNew 1 v' w') : ∃ A1 c1, v' = .slice A1 (m + 1) c1 ∧ NewR w2 (w'.setCell ⟨g, 3, none⟩ v') B g A k c A1 (m + 1) c1 := by
  have h0 := h.cel.frNo (fr_alloc _ o)
  obtain ⟨o1, f1⟩ := h0.appended happ
  have f2 := app_row h0 happ
  have hsz := h.sz
  have hs2 := f1.size
  simp at hs2
  obtain ⟨A1, c1, rfl, -⟩ := o1.form
  have hb : Blk w' g TSt (newArr A k c A' m d) := (h.blk.fr (fr_alloc _ o) (fun h => h)).fr f1 (fun h => by omega)
  refine ⟨A1, c1, rfl, Blk.cv (hb.set_ 3 _) rfl, ?_, ?_, ?_, ?_⟩
  · have o2 := (h.ten.frNo (fr_alloc _ o)).fr' f2 (OwnN.apart (h.ten.frNo (fr_alloc _ o)) h0 (by decide))
    exact o2.fr' (fr_set w' ⟨g, 3, none⟩ _) (fun b hb e => by have h1 := o2.2 b hb; have e : b = g := e; simp only at h1; omega)
  · rw [rowsC_succ]
    refine ⟨((o1.fr' (fr_set w' ⟨g, 3, none⟩ _) ?_)).1, fun b hb => ?_⟩
    · intro b hb e
      have h1 := o1.2 b hb
      have e : b = g := e
      simp at h1
      omega
    · have h1 := o1.2 b hb
      simp at h1
      omega
  · have hs := h.fr.size
    exact ((h.fr.alloc o).transNew f1 (fun i hi => by omega)).transNew (fr_set w' ⟨g, 3, none⟩ _) (fun i hi => by have hi : i = g := hi; omega)
  · have := (fr_set w' ⟨g, 3, none⟩ (.slice A1 (m + 1) c1)).size
    omega
set_option maxRecDepth 100000 in
set_option maxHeartbeats 2000000 in
theorem newm_any {w : World} {c : Cf} (hnc : 1 ≤ c.nc) (hnv : 1 ≤ c.nv) (hnt : c.nt ≤ 16) (hnc2 : c.nc ≤ 16) :
    Calls Tryd.prog 57 #[.agg c.arr] w (NewSt w c) := by
  obtain ⟨it, zt, hit, hz0t, hzst, hz1t, hz2t⟩ := info_z ts_info
  obtain ⟨ic, zc, hic, hz0c, hzsc, hz1c, hz2c⟩ := info_z cs_info
  obtain ⟨rg, nz, ms, mt, nv, le, bk, bz, bc, bv, cz, cc, ct, cv, At, Ar, nr, cr, Ao, no_, co, bl⟩ := c
  simp only at *
  obtain ⟨w1, hw1⟩ : ∃ w1, w1 = w.alloc (.cells #[.int .i64 (rg : Int), .slice (some ⟨bz, 0, none⟩) nz cz, .slice (some ⟨bc, 0, none⟩) ms cc, .slice At mt ct, .slice (some ⟨bv, 0, none⟩) nv cv, .slice Ar nr cr, .slice Ao no_ co, .int .i64 bl, .int .i64 (le : Int), .int .i64 (bk : Int)] TCf) := ⟨_, rfl⟩
  obtain ⟨g1, hg1⟩ : ∃ g1, g1 = w.heap.size := ⟨_, rfl⟩
  have hb1 : Blk w1 g1 TCf #[.int .i64 (rg : Int), .slice (some ⟨bz, 0, none⟩) nz cz, .slice (some ⟨bc, 0, none⟩) ms cc, .slice At mt ct, .slice (some ⟨bv, 0, none⟩) nv cv, .slice Ar nr cr, .slice Ao no_ co, .int .i64 bl, .int .i64 (le : Int), .int .i64 (bk : Int)] := by rw [hw1, hg1]; exact Blk.new _ _ _
  have f1 : Fr No w w1 := by rw [hw1]; exact fr_alloc _ _
  have hs1 : w1.heap.size = g1 + 1 := by rw [hw1, hg1]; simp
  obtain ⟨w2, hw2⟩ : ∃ w2, w2 = w1.alloc (.cells #[.int .i64 0, .int .i64 0, .slice none 0 0, .slice none 0 0, .int .i64 0, .int .i64 0, .int .i64 0, .int .i64 0] TSt) := ⟨_, rfl⟩
  obtain ⟨g2, hg2⟩ : ∃ g2, g2 = w1.heap.size := ⟨_, rfl⟩
  have hb2 : Blk w2 g2 TSt #[.int .i64 0, .int .i64 0, .slice none 0 0, .slice none 0 0, .int .i64 0, .int .i64 0, .int .i64 0, .int .i64 0] := by rw [hw2, hg2]; exact Blk.new _ _ _
  have f2 : Fr No w1 w2 := by rw [hw2]; exact fr_alloc _ _
  have hs2 : w2.heap.size = g2 + 1 := by rw [hw2, hg2]; simp
  have hB1 : Blk w2 g1 TCf #[.int .i64 (rg : Int), .slice (some ⟨bz, 0, none⟩) nz cz, .slice (some ⟨bc, 0, none⟩) ms cc, .slice At mt ct, .slice (some ⟨bv, 0, none⟩) nv cv, .slice Ar nr cr, .slice Ao no_ co, .int .i64 bl, .int .i64 (le : Int), .int .i64 (bk : Int)] := hb1.fr ((Fr.refl No _).transNo f2) (fun h => h)
  have hB2 : Blk w2 g2 TSt #[.int .i64 0, .int .i64 0, .slice none 0 0, .slice none 0 0, .int .i64 0, .int .i64 0, .int .i64 0, .int .i64 0] := hb2.fr (Fr.refl No _) (fun h => h)
  have fW : Fr No w w2 := ((Fr.refl No w).transNo f1).transNo f2
  have he2 : g2 = g1 + 1 := by rw [hg2, hs1]
  have hka : ∀ V, Fr No w2 V → (V.cell? ⟨g1, 0, none⟩ = some (.int .i64 (rg : Int)) ∧ V.cell? ⟨g1, 1, none⟩ = some (.slice (some ⟨bz, 0, none⟩) nz cz) ∧ V.cell? ⟨g1, 2, none⟩ = some (.slice (some ⟨bc, 0, none⟩) ms cc) ∧ V.cell? ⟨g1, 3, none⟩ = some (.slice At mt ct) ∧ V.cell? ⟨g1, 4, none⟩ = some (.slice (some ⟨bv, 0, none⟩) nv cv) ∧ V.cell? ⟨g1, 5, none⟩ = some (.slice Ar nr cr) ∧ V.cell? ⟨g1, 6, none⟩ = some (.slice Ao no_ co) ∧ V.cell? ⟨g1, 7, none⟩ = some (.int .i64 bl) ∧ V.cell? ⟨g1, 8, none⟩ = some (.int .i64 (le : Int)) ∧ V.cell? ⟨g1, 9, none⟩ = some (.int .i64 (bk : Int))) ∧ (V.cell? ⟨g2, 0, none⟩ = some (.int .i64 0) ∧ V.cell? ⟨g2, 1, none⟩ = some (.int .i64 0) ∧ V.cell? ⟨g2, 2, none⟩ = some (.slice none 0 0) ∧ V.cell? ⟨g2, 3, none⟩ = some (.slice none 0 0) ∧ V.cell? ⟨g2, 4, none⟩ = some (.int .i64 0) ∧ V.cell? ⟨g2, 5, none⟩ = some (.int .i64 0) ∧ V.cell? ⟨g2, 6, none⟩ = some (.int .i64 0) ∧ V.cell? ⟨g2, 7, none⟩ = some (.int .i64 0)) := fun V hf => ⟨(let k := hB1.fr hf (fun h => h); ⟨k.cell 0, k.cell 1, k.cell 2, k.cell 3, k.cell 4, k.cell 5, k.cell 6, k.cell 7, k.cell 8, k.cell 9⟩), (let k := hB2.fr hf (fun h => h); ⟨k.cell 0, k.cell 1, k.cell 2, k.cell 3, k.cell 4, k.cell 5, k.cell 6, k.cell 7⟩)⟩
  have hW : w2 = (w.alloc (.cells #[.int .i64 (rg : Int), .slice (some ⟨bz, 0, none⟩) nz cz, .slice (some ⟨bc, 0, none⟩) ms cc, .slice At mt ct, .slice (some ⟨bv, 0, none⟩) nv cv, .slice Ar nr cr, .slice Ao no_ co, .int .i64 bl, .int .i64 (le : Int), .int .i64 (bk : Int)] TCf)).alloc (.cells #[.int .i64 0, .int .i64 0, .slice none 0 0, .slice none 0 0, .int .i64 0, .int .i64 0, .int .i64 0, .int .i64 0] TSt) := by rw [hw2, hw1]
  have hl1 : g1 < w2.heap.size := hB1.lt
  have hl2 : g2 < w2.heap.size := hB2.lt
  clear hw1 hb1 hs1 hw2 hb2 hs2
  have HG1 := Lib.hid hg1
  have HG2 := Lib.hid hg2
  have HE2 := Lib.hid he2
  clear hg1 hg2 he2
  have hz := fun V (hV : Fr No w2 V) => hB2.fr hV (fun h => h)
  have hgz : w.heap.size ≤ g2 := by rw [HE2.out, HG1.out]; omega
  have HKA := Lib.hid hka
  have HW := Lib.hid hW
  have HZ := Lib.hid hz
  clear hka hW hz
  go_enter Tryd.func57, Tryd.ntmps57
  go_upto_region 1 with fail
  rw [← HW.out]
  try rw [← show g2 = w.heap.size + 1 from by rw [HE2.out, HG1.out]]
  try rw [← HG1.out]
  go_upto_region 2 with fail
  obtain ⟨w3, hw3⟩ : ∃ w3, w3 = w2.alloc (.cells (newArr none 0 0 none 0 0) TSt) := ⟨_, rfl⟩
  obtain ⟨g3, hg3⟩ : ∃ g3, g3 = w2.heap.size := ⟨_, rfl⟩
  have hr0 : NewR w2 w3 w3.heap.size g3 none 0 0 none 0 0 := by
    rw [hw3, hg3]
    exact ⟨Blk.new _ _ _, OwnN.nil _ _ _ _, OwnN.nil _ _ _ _, fr_alloc _ _, Nat.le_refl _⟩
  have hg3l : g3 < w3.heap.size := hr0.blk.lt
  have hg3w : w2.heap.size ≤ g3 := by omega
  rw [← hw3, ← hg3]
  obtain ⟨B, hB⟩ : ∃ B, B = w3.heap.size := ⟨_, rfl⟩
  rw [← hB] at hr0 hg3l
  have HG3 := Lib.hid hg3
  clear hw3 hg3 hB
  have HR0 := Lib.hid hr0
  clear hr0
  go_wp2_with fail
  go_loopw [4] (fun i wr => ∃ k : Nat, k ≤ mt ∧ i = .int .i64 k ∧ ∃ A cA, NewR w2 wr B g3 A k cA none 0 0) (fun i _ => mt - (intOf i).toNat)
  case atStart => exact ⟨0, Nat.zero_le _, rfl, _, _, HR0.out⟩
  obtain ⟨k, hk, rfl, A, cA, hr⟩ := hrel
  obtain ⟨⟨e0, e1, e2, e3, e4, e5, e6, e7, e8, e9⟩, ⟨z0, z1, z2, z3, z4, z5, z6, z7⟩⟩ := HKA.out wr hr.fr
  have s2 : wr.cell? ⟨g3, 2, none⟩ = some (.slice A k cA) := hr.blk.cell 2
  have hl3 := hr.blk.lt
  by_cases hlt : k < mt
  · have b1 : decide (k < mt) = true := decide_eq_true hlt
    have b2 : decide ((k : Int) < (mt : Int)) = true := decide_eq_true (by omega)
    have hown := hr.ten.frNo (fr_alloc wr (.cells tsNew.cells.toArray TTs))
    have hrn := Rd.new wr _ TTs (xs := tsNew.cells) rfl
    have hfz := fun V (hV : Fr (fun i => B ≤ i) wr V) => (hr.blk.fr hV (fun h => by omega)).frozen 2
    have hap := fun V' v' => NewR.tens (w' := V') (o := .cells tsNew.cells.toArray TTs) (v' := v') hr hg3l hg3w
    have hfx := fun V' v' => (hr.ten.frNo (fr_alloc wr (.cells tsNew.cells.toArray TTs))).appended (w' := V') (v' := v') (news := tsNew.cells) (m := 1)
    have hlr := rowsT_len k
    have HOWN := Lib.hid hown
    have HRN := Lib.hid hrn
    have HR := Lib.hid hr
    have HAP := Lib.hid hap
    have HFZ := Lib.hid hfz
    have HFX := Lib.hid hfx
    have HLR := Lib.hid hlr
    clear hown hrn hr hap hfz hfx hlr
    go_wp2_with (at_builtin; refine wpList_append_rdN _ rfl (.tmp 15) (.tmp 18) _ rfl 0 TTs it zt 12 88 Tryd.underlying53 hit hz0t hz1t hz2t hzst (by decide) (.slice A k cA) k (rowsT k) rfl HOWN.out.1 (wr.heap.size + 1) (some ⟨wr.heap.size, 0, none⟩) 1 1 tsNew.cells rfl (fun h => by cases h) HRN.out rfl (fun u hu => ts_one hu) (by unfold maxLen; omega) (by omega) (Nat.zero_le _) ?_)
    intro v1 w6 happ
    obtain ⟨A1, c1, hv1, hr1⟩ := HAP.out _ _ happ
    have f6 := (HFX.out _ _ happ).2
    have q2 : w6.frozen? ⟨g3, 2, none⟩ = false := HFZ.out _ (((Fr.refl _ wr).alloc _).trans f6 (fun i hi => .inl hi))
    have hl6 : g3 < w6.heap.size := Nat.lt_of_lt_of_le hl3 (Nat.le_trans (fr_alloc wr (.cells tsNew.cells.toArray TTs)).size f6.size)
    have x2 : ∃ u, w6.cell? ⟨g3, 2, none⟩ = some u := ⟨_, ((HR.out.blk.fr (fr_alloc wr (.cells tsNew.cells.toArray TTs)) (fun h => h)).fr f6 (fun h => by omega)).cell 2⟩
    obtain ⟨u2, x2⟩ := x2
    subst hv1
    clear happ f6 e0 e1 e2 e3 e4 e5 e6 e7 e8 e9 z0 z1 z2 z3 z4 z5 z6 z7 s2
    have HR1 := Lib.hid hr1
    clear hr1
    go_wp2_with fail
    go_roundw
    case rel => exact ⟨k + 1, by omega, by go_num, _, _, HR1.out⟩
    case measure => simp [intOf]; omega
  obtain rfl : k = mt := by omega
  have b1 : decide (k < k) = false := by simp
  have b2 : decide ((k : Int) < (k : Int)) = false := by simp
  clear hlt
  have HR := Lib.hid hr
  clear hr
  go_wp2_with fail
  clear s2 e0 e1 e2 e3 e4 e5 e6 e7 e8 e9 z0 z1 z2 z3 z4 z5 z6 z7 hl3
  go_loopw [5] (fun i wr => ∃ j : Nat, j ≤ ms ∧ i = .int .i64 j ∧ ∃ A' cA', NewR w2 wr B g3 A k cA A' j cA') (fun i _ => ms - (intOf i).toNat)
  case atStart => exact ⟨0, Nat.zero_le _, rfl, _, _, HR.out⟩
  obtain ⟨j, hj, rfl, A', cA', hr⟩ := hrel
  obtain ⟨⟨e0, e1, e2, e3, e4, e5, e6, e7, e8, e9⟩, ⟨z0, z1, z2, z3, z4, z5, z6, z7⟩⟩ := HKA.out wr hr.fr
  have s3 : wr.cell? ⟨g3, 3, none⟩ = some (.slice A' j cA') := hr.blk.cell 3
  have hl3 := hr.blk.lt
  by_cases hlt : j < ms
  · have b1 : decide (j < ms) = true := decide_eq_true hlt
    have b2 : decide ((j : Int) < (ms : Int)) = true := decide_eq_true (by omega)
    have hown := hr.cel.frNo (fr_alloc wr (.cells csNew.toArray TCs))
    have hrn := Rd.new wr _ TCs (xs := csNew) rfl
    have hfz := fun V (hV : Fr (fun i => B ≤ i) wr V) => (hr.blk.fr hV (fun h => by omega)).frozen 3
    have hap := fun V' v' => NewR.cels (w' := V') (o := .cells csNew.toArray TCs) (v' := v') hr hg3l hg3w
    have hfx := fun V' v' => (hr.cel.frNo (fr_alloc wr (.cells csNew.toArray TCs))).appended (w' := V') (v' := v') (news := csNew) (m := 1)
    have HOWN := Lib.hid hown
    have HRN := Lib.hid hrn
    have HR := Lib.hid hr
    have HAP := Lib.hid hap
    have HFZ := Lib.hid hfz
    have HFX := Lib.hid hfx
    clear hown hrn hr hap hfz hfx
    go_wp2_with (at_builtin; refine wpList_append_rdN _ rfl (.tmp 29) (.tmp 31) _ rfl 0 TCs ic zc 4 32 Tryd.underlying54 hic hz0c hz1c hz2c hzsc (by decide) (.slice A' j cA') j (rowsC j) rfl HOWN.out.1 (wr.heap.size + 1) (some ⟨wr.heap.size, 0, none⟩) 1 1 csNew rfl (fun h => by cases h) HRN.out rfl (fun u hu => by simp at hu; rcases hu with rfl | rfl <;> rfl) (by unfold maxLen; omega) (by omega) (Nat.zero_le _) ?_)
    intro v1 w6 happ
    obtain ⟨A1, c1, hv1, hr1⟩ := HAP.out _ _ happ
    have f6 := (HFX.out _ _ happ).2
    have q2 : w6.frozen? ⟨g3, 3, none⟩ = false := HFZ.out _ (((Fr.refl _ wr).alloc _).trans f6 (fun i hi => .inl hi))
    have hl6 : g3 < w6.heap.size := Nat.lt_of_lt_of_le hl3 (Nat.le_trans (fr_alloc wr (.cells csNew.toArray TCs)).size f6.size)
    have x2 : ∃ u, w6.cell? ⟨g3, 3, none⟩ = some u := ⟨_, ((HR.out.blk.fr (fr_alloc wr (.cells csNew.toArray TCs)) (fun h => h)).fr f6 (fun h => by omega)).cell 3⟩
    obtain ⟨u2, x2⟩ := x2
    subst hv1
    clear happ f6 e0 e1 e2 e3 e4 e5 e6 e7 e8 e9 z0 z1 z2 z3 z4 z5 z6 z7 s3
    have HR1 := Lib.hid hr1
    clear hr1
    go_wp2_with fail
    go_roundw
    case rel => exact ⟨j + 1, by omega, by go_num, _, _, HR1.out⟩
    case measure => simp [intOf]; omega
  obtain rfl : j = ms := by omega
  have b1 : decide (j < j) = false := by simp
  have b2 : decide ((j : Int) < (j : Int)) = false := by simp
  clear hlt
  have hok := StOk.bound (StOk.made (c := ⟨rg, nz, j, k, nv, le, bk, bz, bc, bv, cz, cc, ct, cv, At, Ar, nr, cr, Ao, no_, co, bl⟩) (s := ⟨0, 0, A, k, cA, A', j, cA', 1, 0, 0, 0⟩) rfl rfl hnc hr.ten hr.cel (rowsT_ok _ _ hnc) (rowsC_ok _ _ hnv))
  have hf9 := fW.transNo hr.fr
  have hzz := HZ.out wr hr.fr
  have hgB : g2 < B := by omega
  obtain ⟨s0, s1, s2, s3', s4, s5, s6, s7⟩ := st_cells (s := ⟨0, 0, A, k, cA, A', j, cA', 1, 0, 0, 0⟩) hr.blk
  simp only at s0 s1 s2 s3' s4 s5 s6 s7
  have q0 := hzz.frozen 0
  have q1 := hzz.frozen 1
  have q2 := hzz.frozen 2
  have q3 := hzz.frozen 3
  have q4 := hzz.frozen 4
  have q5 := hzz.frozen 5
  have q6 := hzz.frozen 6
  have q7 := hzz.frozen 7
  have HOK := Lib.hid hok
  have HF9 := Lib.hid hf9
  have HZZ := Lib.hid hzz
  clear hok hf9 hzz
  clear hr
  go_wp2_with fail
  have T8 := Lib.hid (st_fill (q := g2) (z := stZero) ⟨0, 0, A, k, cA, A', j, cA', 1, 0, 0, 0⟩ HZZ.out)
  have T9 := Lib.hid (NewSt.fill (q := g2) HOK.out HF9.out hgz hgB)
  exact bodyPost_ret (v := .agg (St.arr ⟨0, 0, A, k, cA, A', j, cA', 1, 0, 0, 0⟩)) (new_results ⟨0, 0, A, k, cA, A', j, cA', 1, 0, 0, 0⟩ g2 _ _ T8.out rfl) rfl T9.out
end Go.Proofs.YtanhbebikcoliaaDoor
