/-
  Several texts in one: Lo, Sta, Co.
-/
import Derived.Test.YtanhbebikcoliaaDoorEe
/- A new tape; Log. -/
namespace Go.Proofs.YtanhbebikcoliaaDoor
open Go.ChangeShapes Go.WideShapes Go.ChangeAt Go.RowKit
set_option linter.unusedVariables false
/-- A list of numbers that came in. -/
def LsIn (w : World) (A : Option Addr) (n : Nat) : Prop := n = 0 ∨ ∃ b off, A = some ⟨b, off, none⟩ ∧ b < w.heap.size ∧ ∀ i, i < n → ∃ x : Int, w.cell? ⟨b, off + i, none⟩ = some (.int .i64 x)
theorem LsIn.fr {w w' : World} {A : Option Addr} {n : Nat} (h : LsIn w A n) (hf : Fr No w w') : LsIn w' A n := by
  rcases h with h | ⟨b, off, e1, e2, e3⟩
  · exact .inl h
  · exact .inr ⟨b, off, e1, Nat.lt_of_lt_of_le e2 hf.size, fun i hi => let ⟨x, hx⟩ := e3 i hi; ⟨x, (hf.cell (p := ⟨b, off + i, none⟩) e2 (fun h => h)).trans hx⟩⟩
def NewT (w : World) (A : Option Addr) (n c : Nat) (e : Ending) (w' : World) : Prop := ∃ t, e = .returned (.pointer (some ⟨t, 0, none⟩)) ∧ w.heap.size ≤ t ∧ Tp w' t A n c 0 ∧ Fr No w w'
set_option maxHeartbeats 2000000 in
theorem newt_any {w : World} {A : Option Addr} {n cp : Nat} (h : LsIn w A n) (hn : n ≤ 200) : Calls Tryd.prog 25 #[.slice A n cp] w (NewT w A n cp) := by
  have hT : ∀ W, W = w.alloc (.cells #[.slice A n cp, .int .i64 0] TTp) → NewT w A n cp (.returned (.pointer (some ⟨w.heap.size, 0, none⟩))) W := fun W hW => by
    subst hW
    refine ⟨_, rfl, Nat.le_refl _, ⟨Blk.new _ _ _, ?_, hn⟩, fr_alloc _ _⟩
    rcases h with h | ⟨b, off, e1, e2, e3⟩
    · exact .inl h
    · exact .inr ⟨b, off, e1, by omega, by simp; omega, fun i hi => let ⟨x, hx⟩ := e3 i hi; ⟨x, ((fr_alloc w _).cell (p := ⟨b, off + i, none⟩) e2 (fun h => h)).trans hx⟩⟩
  have HT := Lib.hid hT
  clear hT
  clear h
  go_enter Tryd.func25, Tryd.ntmps25
  go_wp2_with fail
  go_ret
  exact HT.out _ rfl
/-- Rows of entries. -/
def ERows (m : Nat) (xs : List Value) : Prop := ∀ i, i < m → ∃ e : En, xs[i * 9]? = some (.int .i64 e.kind) ∧ xs[i * 9 + 1]? = some (.int .i64 e.tick) ∧ xs[i * 9 + 2]? = some (.int .i64 e.tenant) ∧ xs[i * 9 + 3]? = some (.int .i64 e.cell) ∧ xs[i * 9 + 4]? = some (.int .i64 e.other) ∧ xs[i * 9 + 5]? = some (.int .i64 e.epoch) ∧ xs[i * 9 + 6]? = some (.int .i64 e.from_) ∧ xs[i * 9 + 7]? = some (.int .i64 e.until_) ∧ xs[i * 9 + 8]? = some (.int .i64 e.n)
theorem ERows.snoc {m : Nat} {xs : List Value} (h : ERows m xs) (hl : xs.length = m * 9) (e : En) : ERows (m + 1) (xs ++ (EnArr e).toList) := by
  intro i hi
  by_cases hlt : i < m
  · obtain ⟨e', c0, c1, c2, c3, c4, c5, c6, c7, c8⟩ := h i hlt
    refine ⟨e', ?_, ?_, ?_, ?_, ?_, ?_, ?_, ?_, ?_⟩
    all_goals rw [List.getElem?_append_left (by rw [hl]; omega)]
    · exact c0
    · exact c1
    · exact c2
    · exact c3
    · exact c4
    · exact c5
    · exact c6
    · exact c7
    · exact c8
  · obtain rfl : i = m := by omega
    refine ⟨e, ?_, ?_, ?_, ?_, ?_, ?_, ?_, ?_, ?_⟩
    all_goals rw [List.getElem?_append_right (by rw [hl]; omega), hl]
    · rw [show i * 9 - i * 9 = 0 from by omega]; rfl
    · rw [show i * 9 + 1 - i * 9 = 1 from by omega]; rfl
    · rw [show i * 9 + 2 - i * 9 = 2 from by omega]; rfl
    · rw [show i * 9 + 3 - i * 9 = 3 from by omega]; rfl
    · rw [show i * 9 + 4 - i * 9 = 4 from by omega]; rfl
    · rw [show i * 9 + 5 - i * 9 = 5 from by omega]; rfl
    · rw [show i * 9 + 6 - i * 9 = 6 from by omega]; rfl
    · rw [show i * 9 + 7 - i * 9 = 7 from by omega]; rfl
    · rw [show i * 9 + 8 - i * 9 = 8 from by omega]; rfl
theorem ERows.row {w : World} {F : Nat → Prop} {A : Option Addr} {m c : Nat} {xs : List Value} (h : ERows m xs) (ho : OwnN w F TEm 9 (.slice A m c) m xs) : EnRow w A m := by
  intro i hi
  obtain ⟨e, c0, c1, c2, c3, c4, c5, c6, c7, c8⟩ := h i hi
  rcases ownN_blk ho with ⟨-, h0⟩ | ⟨b, cur, k1, k2, k3, k4⟩
  · omega
  · refine ⟨b, e, k1, k3.lt, fun V hV => ?_⟩
    have k := k3.fr hV (fun h => h)
    exact ⟨(k.cell _).trans ((k4 _ (by omega)).trans c0), (k.cell _).trans ((k4 _ (by omega)).trans c1), (k.cell _).trans ((k4 _ (by omega)).trans c2), (k.cell _).trans ((k4 _ (by omega)).trans c3), (k.cell _).trans ((k4 _ (by omega)).trans c4), (k.cell _).trans ((k4 _ (by omega)).trans c5), (k.cell _).trans ((k4 _ (by omega)).trans c6), (k.cell _).trans ((k4 _ (by omega)).trans c7), (k.cell _).trans ((k4 _ (by omega)).trans c8)⟩
/-- What Log answers. -/
def LogTo (w : World) (e : Ending) (w' : World) : Prop := ∃ (A : Option Addr) (m c : Nat) (xs : List Value), e = .returned (.slice A m c) ∧ m ≤ 1000 ∧ EnRow w' A m ∧ Fr No w w'
def kOf (w : World) (t : Nat) : Nat := match w.cell? ⟨t, 1, none⟩ with | some (.int _ i) => i.toNat | _ => 0
theorem Tp.kOf {w : World} {t : Nat} {A : Option Addr} {n c k : Nat} (h : Tp w t A n c k) : kOf w t = k := by
  have h1 : w.cell? ⟨t, 1, none⟩ = some (.int .i64 (k : Int)) := h.blk.cell 1
  unfold Go.Proofs.YtanhbebikcoliaaDoor.kOf
  rw [h1]
  simp
theorem em_info : (Tryd.prog.info? TEm).map (fun i => (i.zero.map fun z => z.cells.size, i.size, i.bytes)) = some (some 9, 9, 72) := by kernel_rfl
/-- Log under way. -/
structure LgS (w : World) (t g1 g8 B : Nat) (A : Option Addr) (n cp : Nat) (c : Cf) (wr : World) (k m : Nat) (v : Value) (s : St) : Prop where
  tp : Tp wr t A n cp k
  cb : Blk wr g1 TCf c.arr
  sb : Blk wr g8 TSt s.arr
  ok : StOk wr (fun i => w.heap.size ≤ i) c s
  row : ∃ xs, OwnN wr (fun i => B ≤ i) TEm 9 v m xs ∧ ERows m xs
  fr : Fr No w wr
  sz : B ≤ wr.heap.size
theorem LgS.step {w : World} {t g1 g8 B : Nat} {A : Option Addr} {n cp : Nat} {c : Cf} {wr W : World} {k k' m : Nat} {v : Value} {s : St} (h : LgS w t g1 g8 B A n cp c wr k m v s) (ht : Tp W t A n cp k') (hf : Fr (fun i => i = t) wr W) (hwt : w.heap.size ≤ t) : LgS w t g1 g8 B A n cp c W k' m v s := by
  obtain ⟨xs, h1, h2⟩ := h.row
  refine ⟨ht, h.cb.fr hf (h.tp.ne h.cb (by decide)), h.sb.fr hf (h.tp.ne h.sb (by decide)), h.ok.tape h.tp hf, ⟨xs, h1.fr' hf (fun b hb e => ?_), h2⟩, h.fr.transNew hf (fun i hi => by have hi : i = t := hi; omega), Nat.le_trans h.sz hf.size⟩
  have e : b = t := e
  exact (h1.ne_blk h.tp.blk (by decide)) b hb e
theorem LgS.frNo {w : World} {t g1 g8 B : Nat} {A : Option Addr} {n cp : Nat} {c : Cf} {wr W : World} {k m : Nat} {v : Value} {s : St} (h : LgS w t g1 g8 B A n cp c wr k m v s) (hf : Fr No wr W) : LgS w t g1 g8 B A n cp c W k m v s := by
  obtain ⟨xs, h1, h2⟩ := h.row
  exact ⟨h.tp.frNo hf, h.cb.fr hf (fun h => h), h.sb.fr hf (fun h => h), h.ok.frNo hf, ⟨xs, h1.frNo hf, h2⟩, h.fr.transNo hf, Nat.le_trans h.sz hf.size⟩
theorem Tp.type {w w' : World} {F : Nat → Prop} {t B : Nat} {A : Option Addr} {n c k : Nat} (h : Tp w t A n c k) (hf : Fr F w w') (hl : TpLow A n B) (hF : ∀ i, F i → i ≠ t ∧ B ≤ i) : Tp w' t A n c k := by
  refine ⟨h.blk.fr hf (fun e => (hF t e).1 rfl), ?_, h.len⟩
  rcases h.row with h | ⟨b, off, e1, e2, e3, e4⟩
  · exact .inl h
  · refine .inr ⟨b, off, e1, e2, Nat.lt_of_lt_of_le e3 hf.size, fun i hi => ?_⟩
    obtain ⟨x, hx⟩ := e4 i hi
    exact ⟨x, (hf.cell (p := ⟨b, off + i, none⟩) e3 (fun e => by have := (hF b e).2; have := hl b off i e1 hi; omega)).trans hx⟩
/-- The state's box is given another state. -/
theorem LgS.put {w : World} {t g1 g8 B : Nat} {A : Option Addr} {n cp : Nat} {c : Cf} {wr : World} {k m : Nat} {v : Value} {s s' : St} (h : LgS w t g1 g8 B A n cp c wr k m v s) (hok : StOk wr (fun i => w.heap.size ≤ i) c s') (hl : TpLow A n w.heap.size) (hg : w.heap.size ≤ g8) (hne : g1 ≠ g8) : LgS w t g1 g8 B A n cp c (World.setCell (World.setCell (World.setCell (World.setCell (World.setCell (World.setCell (World.setCell (World.setCell wr ⟨g8, 0, none⟩ (.int .i64 s'.tk)) ⟨g8, 1, none⟩ (.int .i64 s'.cn)) ⟨g8, 2, none⟩ (.slice s'.Bt s'.mt s'.dt)) ⟨g8, 3, none⟩ (.slice s'.Bs s'.ms s'.ds)) ⟨g8, 4, none⟩ (.int .i64 s'.pr)) ⟨g8, 5, none⟩ (.int .i64 s'.ev)) ⟨g8, 6, none⟩ (.int .i64 s'.lo)) ⟨g8, 7, none⟩ (.int .i64 s'.hi)) k m v s' := by
  obtain ⟨xs, h1, h2⟩ := h.row
  obtain ⟨k1, k2⟩ := box_put s' h.sb
  refine ⟨h.tp.type k2 hl (fun i hi => by have hi : i = g8 := hi; subst hi; exact ⟨h.tp.ne h.sb (by decide), hg⟩), h.cb.fr k2 hne, k1, hok.putBox s' h.sb, ⟨xs, h1.fr' k2 (fun b hb e => (h1.ne_blk h.sb (by decide)) b hb e), h2⟩, h.fr.transNew k2 (fun i hi => by have hi : i = g8 := hi; omega), Nat.le_trans h.sz k2.size⟩
/-- An entry is appended. -/
theorem LgS.app {w : World} {t g1 g8 B : Nat} {A : Option Addr} {n cp : Nat} {c : Cf} {wr w' : World} {k m : Nat} {v v' : Value} {s : St} {xs : List Value} {o : Obj} {e : En} (h : LgS w t g1 g8 B A n cp c wr k m v s) (h1 : OwnN wr (fun i => B ≤ i) TEm 9 v m xs) (h2 : ERows m xs) (hB : w.heap.size ≤ B) (ht : t < B) (hl : TpLow A n w.heap.size)
    (happ : AppendedN (wr.alloc o) 0 TEm 9 v m xs (EnArr e).toList 1 v' w') : LgS w t g1 g8 B A n cp c w' k (m + 1) v' s := by
  have h3 := h.frNo (fr_alloc wr o)
  have h1' := h1.frNo (fr_alloc wr o)
  obtain ⟨o1, f1⟩ := h1'.appended happ
  have f2 := app_row h1' happ
  have hF : ∀ i, v.ownBlock = some i → B ≤ i := fun i hi => h1'.2 i hi
  have hsz := h3.sz
  refine ⟨h3.tp.type f2 hl (fun i hi => ⟨fun e => by have := hF i hi; omega, by have := hF i hi; omega⟩), h3.cb.fr f2 (fun hb => (h1'.ne_blk h3.cb (by decide)) _ hb rfl), h3.sb.fr f2 (fun hb => (h1'.ne_blk h3.sb (by decide)) _ hb rfl), ?_, ⟨_, o1.mono (fun i hi => by rcases hi with hi | hi; exact hi; exact by have := hi.1; omega), h2.snoc h1.1.1 e⟩, h3.fr.transNew f2 (fun i hi => Nat.le_trans hB (hF i hi)), Nat.le_trans h3.sz f2.size⟩
  obtain ⟨q1, q2, q3, q4, ⟨b, cur, q5, q6, q7, q8⟩, q9, q10⟩ := h3.ok
  refine ⟨q1, q2, q3, q4, ⟨b, cur, q5, q6, q7.fr f2 (fun hb => (h1'.ne_blk q7 (by decide)) _ hb rfl), q8⟩, q9.imp id ?_, q10⟩
  rintro ⟨b, cur, q5, q6, q7, q8⟩
  exact ⟨b, cur, q5, q6, q7.fr f2 (fun hb => (h1'.ne_blk q7 (by decide)) _ hb rfl), q8⟩
set_option maxRecDepth 100000 in
set_option maxHeartbeats 4000000 in
theorem log_any {w : World} {c : Cf} (h : CfOk w c) {A : Option Addr} {n cp : Nat} (hl : LsIn w A n) (hn : n ≤ 200) (lim : Int) (hlim : 0 ≤ lim ∧ lim ≤ 500) :
    Calls Tryd.prog 44 #[.slice A n cp, .agg c.arr, .int .i64 lim] w (LogTo w) := by
  obtain ⟨ie, ze, hie, hz0e, hzse, hz1e, hz2e⟩ := info_z em_info
  have hnt := fun W (hf : Fr No w W) => newt_any (cp := cp) (hl.fr hf) hn
  have hnw := fun W => newm_any (w := W) (c := c) h.nc1 h.nv1 h.nt2 h.nc2
  have hap := fun W (hf : Fr No w W) (G : Nat → Prop) (s : St) (hs : StOk W G c s) (e : En) => apply_any (h.frNo hf) hs e
  have hen := fun W (hf : Fr No w W) t k (G : Nat → Prop) (s : St) (hT : Tp W t A n cp k) (hk : k ≤ 900000) (hs : StOk W G c s) => entrym_any hT hk (h.frNo hf) hs
  have hlow : TpLow A n w.heap.size := fun b off i hA hi => by
    rcases hl with h | ⟨b', off', e1, e2, e3⟩
    · omega
    · rw [hA] at e1
      injection e1 with e1
      injection e1 with e1
      omega
  obtain ⟨rg, nz, nc, nt, nv, le, bk, bz, bc, bv, cz, cc, ct, cv, At, Ar, nr, cr, Ao, no_, co, bl⟩ := c
  try simp only at *
  clear h
  obtain ⟨w1, hw1⟩ : ∃ w1, w1 = w.alloc (.cells #[.int .i64 (rg : Int), .slice (some ⟨bz, 0, none⟩) nz cz, .slice (some ⟨bc, 0, none⟩) nc cc, .slice At nt ct, .slice (some ⟨bv, 0, none⟩) nv cv, .slice Ar nr cr, .slice Ao no_ co, .int .i64 bl, .int .i64 (le : Int), .int .i64 (bk : Int)] TCf) := ⟨_, rfl⟩
  obtain ⟨g1, hg1⟩ : ∃ g1, g1 = w.heap.size := ⟨_, rfl⟩
  have hb1 : Blk w1 g1 TCf #[.int .i64 (rg : Int), .slice (some ⟨bz, 0, none⟩) nz cz, .slice (some ⟨bc, 0, none⟩) nc cc, .slice At nt ct, .slice (some ⟨bv, 0, none⟩) nv cv, .slice Ar nr cr, .slice Ao no_ co, .int .i64 bl, .int .i64 (le : Int), .int .i64 (bk : Int)] := by rw [hw1, hg1]; exact Blk.new _ _ _
  have f1 : Fr No w w1 := by rw [hw1]; exact fr_alloc _ _
  have hs1 : w1.heap.size = g1 + 1 := by rw [hw1, hg1]; simp
  have hB1 : Blk w1 g1 TCf #[.int .i64 (rg : Int), .slice (some ⟨bz, 0, none⟩) nz cz, .slice (some ⟨bc, 0, none⟩) nc cc, .slice At nt ct, .slice (some ⟨bv, 0, none⟩) nv cv, .slice Ar nr cr, .slice Ao no_ co, .int .i64 bl, .int .i64 (le : Int), .int .i64 (bk : Int)] := hb1.fr (Fr.refl No _) (fun h => h)
  have fW : Fr No w w1 := (Fr.refl No w).transNo f1
  have hka : ∀ V, Fr No w1 V → (V.cell? ⟨g1, 0, none⟩ = some (.int .i64 (rg : Int)) ∧ V.cell? ⟨g1, 1, none⟩ = some (.slice (some ⟨bz, 0, none⟩) nz cz) ∧ V.cell? ⟨g1, 2, none⟩ = some (.slice (some ⟨bc, 0, none⟩) nc cc) ∧ V.cell? ⟨g1, 3, none⟩ = some (.slice At nt ct) ∧ V.cell? ⟨g1, 4, none⟩ = some (.slice (some ⟨bv, 0, none⟩) nv cv) ∧ V.cell? ⟨g1, 5, none⟩ = some (.slice Ar nr cr) ∧ V.cell? ⟨g1, 6, none⟩ = some (.slice Ao no_ co) ∧ V.cell? ⟨g1, 7, none⟩ = some (.int .i64 bl) ∧ V.cell? ⟨g1, 8, none⟩ = some (.int .i64 (le : Int)) ∧ V.cell? ⟨g1, 9, none⟩ = some (.int .i64 (bk : Int))) := fun V hf => (let k := hB1.fr hf (fun h => h); ⟨k.cell 0, k.cell 1, k.cell 2, k.cell 3, k.cell 4, k.cell 5, k.cell 6, k.cell 7, k.cell 8, k.cell 9⟩)
  have hW : w1 = w.alloc (.cells #[.int .i64 (rg : Int), .slice (some ⟨bz, 0, none⟩) nz cz, .slice (some ⟨bc, 0, none⟩) nc cc, .slice At nt ct, .slice (some ⟨bv, 0, none⟩) nv cv, .slice Ar nr cr, .slice Ao no_ co, .int .i64 bl, .int .i64 (le : Int), .int .i64 (bk : Int)] TCf) := by rw [hw1]
  have hl1 : g1 < w1.heap.size := hB1.lt
  clear hw1 hb1 hs1
  have HG1 := Lib.hid hg1
  clear hg1
  have HNT := Lib.hid hnt
  have HNW := Lib.hid hnw
  have HAP := Lib.hid hap
  have HEN := Lib.hid hen
  have HKA := Lib.hid hka
  have HW := Lib.hid hW
  clear hnt hnw hap hen hka hW
  go_enter Tryd.func44, Tryd.ntmps44
  go_upto_region 1 with fail
  rw [← HW.out]
  try rw [← HG1.out]
  obtain ⟨e0, e1, e2, e3, e4, e5, e6, e7, e8, e9⟩ := HKA.out w1 (Fr.refl _ _)
  go_wp2_with fail
  refine (HNT.out _ fW).mono ?_
  rintro r v2 ⟨t, rfl, ht1, hT2, f2⟩
  have f02 := fW.transNo f2
  clear e0 e1 e2 e3 e4 e5 e6 e7 e8 e9
  obtain ⟨e0, e1, e2, e3, e4, e5, e6, e7, e8, e9⟩ := HKA.out v2 f2
  go_wp2_with fail
  refine (HNW.out _).mono ?_
  rintro r v3 ⟨⟨tk0, cn0, Bt0, mt0, dt0, Bs0, ms0, ds0, pr0, ev0, lo0, hi0⟩, rfl, hok, f3⟩
  go_upto_region 3 with fail
  obtain ⟨w4, hw4⟩ : ∃ w4, w4 = v3.alloc (.cells #[.int .i64 tk0, .int .i64 cn0, .slice Bt0 mt0 dt0, .slice Bs0 ms0 ds0, .int .i64 pr0, .int .i64 ev0, .int .i64 lo0, .int .i64 hi0] TSt) := ⟨_, rfl⟩
  obtain ⟨g8, hg8⟩ : ∃ g8, g8 = v3.heap.size := ⟨_, rfl⟩
  have f4 : Fr No v3 w4 := by rw [hw4]; exact fr_alloc _ _
  have f34 := f3.transNo f4
  have f04 := f02.transNo f34
  have hs02 := f02.size
  have hs3 := f3.size
  have hg8w : w.heap.size ≤ g8 := by omega
  have hl1v : g1 < v2.heap.size := Nat.lt_of_lt_of_le hl1 f2.size
  have hne : g1 ≠ g8 := by omega
  have hwt : w.heap.size ≤ t := by have := fW.size; omega
  have htB : t < w4.heap.size := Nat.lt_of_lt_of_le hT2.blk.lt f34.size
  have hwB : w.heap.size ≤ w4.heap.size := f04.size
  have hs0 : LgS w t g1 g8 w4.heap.size A n cp ⟨rg, nz, nc, nt, nv, le, bk, bz, bc, bv, cz, cc, ct, cv, At, Ar, nr, cr, Ao, no_, co, bl⟩ w4 0 0 (.slice none 0 0) ⟨tk0, cn0, Bt0, mt0, dt0, Bs0, ms0, ds0, pr0, ev0, lo0, hi0⟩ :=
    ⟨hT2.frNo f34, (hB1.fr f2 (fun h => h)).fr f34 (fun h => h), by rw [hw4, hg8]; exact Blk.new _ _ _, (hok.mono (F := fun i => w.heap.size ≤ i) (fun i hi => by have := hi.1; omega)).frNo f4, ⟨[], OwnN.nil _ _ _ _, fun i hi => by omega⟩, f04, Nat.le_refl _⟩
  rw [← hw4, ← hg8]
  have hg8B : g8 < w4.heap.size := hs0.sb.lt
  obtain ⟨B, hB⟩ : ∃ B, B = w4.heap.size := ⟨_, rfl⟩
  rw [← hB] at hs0 htB hwB hg8B
  clear hw4 hg8 hok f3 f4 f34 hT2 f2 hB HKA f1 fW e0 e1 e2 e3 e4 e5 e6 e7 e8 e9
  have HS0 := Lib.hid hs0
  clear hs0
  go_wp2_with fail
  go_loopw [9] (fun v wr => ∃ (k m : Nat) (s : St), k ≤ 230 ∧ m ≤ k ∧ LgS w t g1 g8 B A n cp ⟨rg, nz, nc, nt, nv, le, bk, bz, bc, bv, cz, cc, ct, cv, At, Ar, nr, cr, Ao, no_, co, bl⟩ wr k m v s) (fun _ wr => 300 - kOf wr t)
  case atStart => exact ⟨0, 0, _, by omega, by omega, HS0.out⟩
  clear HS0
  obtain ⟨k, m, ⟨tk, cn, Bt, mt, dt, Bs, ms, ds, pr, ev, lo, hi⟩, hk, hm, hr⟩ := hrel
  obtain ⟨xs, hox, hex⟩ := hr.row
  obtain ⟨Ao_, co_, rfl, hno⟩ := hox.form
  obtain ⟨e0, e1, e2, e3, e4, e5, e6, e7, e8, e9⟩ : wr.cell? ⟨g1, 0, none⟩ = some (.int .i64 (rg : Int)) ∧ wr.cell? ⟨g1, 1, none⟩ = some (.slice (some ⟨bz, 0, none⟩) nz cz) ∧ wr.cell? ⟨g1, 2, none⟩ = some (.slice (some ⟨bc, 0, none⟩) nc cc) ∧ wr.cell? ⟨g1, 3, none⟩ = some (.slice At nt ct) ∧ wr.cell? ⟨g1, 4, none⟩ = some (.slice (some ⟨bv, 0, none⟩) nv cv) ∧ wr.cell? ⟨g1, 5, none⟩ = some (.slice Ar nr cr) ∧ wr.cell? ⟨g1, 6, none⟩ = some (.slice Ao no_ co) ∧ wr.cell? ⟨g1, 7, none⟩ = some (.int .i64 bl) ∧ wr.cell? ⟨g1, 8, none⟩ = some (.int .i64 (le : Int)) ∧ wr.cell? ⟨g1, 9, none⟩ = some (.int .i64 (bk : Int)) := let k := hr.cb; ⟨k.cell 0, k.cell 1, k.cell 2, k.cell 3, k.cell 4, k.cell 5, k.cell 6, k.cell 7, k.cell 8, k.cell 9⟩
  obtain ⟨s0, s1, s2, s3, s4, s5, s6, s7⟩ := st_cells hr.sb
  simp only at s0 s1 s2 s3 s4 s5 s6 s7
  have hfin : ∀ W, Fr No wr W → LogTo w (.returned (.slice Ao_ m co_)) W := fun W hW => ⟨Ao_, m, co_, xs, rfl, by omega, (hex.row hox).fr hW, hr.fr.transNo hW⟩
  have hmo := fun W (hW : Fr No wr W) => more_any (hr.tp.frNo hW)
  have hen2 := fun W (hW : Fr No wr W) => HEN.out W (hr.fr.transNo hW) t k _ _ (hr.tp.frNo hW) (by omega) (hr.ok.frNo hW)
  have hkof := hr.tp.kOf
  have hwrl := hr.fr.size
  have HFIN := Lib.hid hfin
  have HMO := Lib.hid hmo
  have HEN2 := Lib.hid hen2
  have HR := Lib.hid hr
  have HOX := Lib.hid hox
  have HEX := Lib.hid hex
  clear hfin hmo hen2 hr hox hex
  by_cases hlt : (m : Int) < lim
  rotate_left
  · have b2 : decide ((m : Int) < lim) = false := decide_eq_false hlt
    go_wp2_with fail
    go_ret
    exact HFIN.out _ (by repeat (first | assumption | exact Fr.refl _ _ | refine Fr.alloc ?_ _ | refine Fr.drew ?_ | refine Fr.drewN ?_ _))
  have b2 : decide ((m : Int) < lim) = true := decide_eq_true hlt
  go_wp2_with fail
  refine (HMO.out _ (Fr.refl _ _)).mono ?_
  rintro r v5 ⟨rfl, f5⟩
  by_cases hkn : k < n
  rotate_left
  · have b3 : decide (k < n) = false := decide_eq_false hkn
    rw [b3]
    go_wp2_with fail
    go_ret
    exact HFIN.out _ f5
  have b3 : decide (k < n) = true := decide_eq_true hkn
  rw [b3]
  clear e0 e1 e2 e3 e4 e5 e6 e7 e8 e9 s0 s1 s2 s3 s4 s5 s6 s7
  replace HR := Lib.hid (HR.out.frNo f5)
  obtain ⟨e0, e1, e2, e3, e4, e5, e6, e7, e8, e9⟩ : v5.cell? ⟨g1, 0, none⟩ = some (.int .i64 (rg : Int)) ∧ v5.cell? ⟨g1, 1, none⟩ = some (.slice (some ⟨bz, 0, none⟩) nz cz) ∧ v5.cell? ⟨g1, 2, none⟩ = some (.slice (some ⟨bc, 0, none⟩) nc cc) ∧ v5.cell? ⟨g1, 3, none⟩ = some (.slice At nt ct) ∧ v5.cell? ⟨g1, 4, none⟩ = some (.slice (some ⟨bv, 0, none⟩) nv cv) ∧ v5.cell? ⟨g1, 5, none⟩ = some (.slice Ar nr cr) ∧ v5.cell? ⟨g1, 6, none⟩ = some (.slice Ao no_ co) ∧ v5.cell? ⟨g1, 7, none⟩ = some (.int .i64 bl) ∧ v5.cell? ⟨g1, 8, none⟩ = some (.int .i64 (le : Int)) ∧ v5.cell? ⟨g1, 9, none⟩ = some (.int .i64 (bk : Int)) := let k := HR.out.cb; ⟨k.cell 0, k.cell 1, k.cell 2, k.cell 3, k.cell 4, k.cell 5, k.cell 6, k.cell 7, k.cell 8, k.cell 9⟩
  obtain ⟨s0, s1, s2, s3, s4, s5, s6, s7⟩ := st_cells HR.out.sb
  simp only at s0 s1 s2 s3 s4 s5 s6 s7
  go_wp2_with fail
  refine (HEN2.out _ f5).mono ?_
  rintro r v6 ⟨⟨kd, et, tn, cl, ot, ep, fm, un, nn⟩, rfl, heok, k2, j1, j2, j3, hT6, f6⟩
  replace HR := Lib.hid (HR.out.step hT6 f6 hwt)
  have HOX6 := Lib.hid ((HOX.out.frNo f5).fr' f6 (fun b hb e => by have h1 := HOX.out.2 b hb; have e : b = t := e; simp only at h1; omega))
  clear hT6 f6 e0 e1 e2 e3 e4 e5 e6 e7 e8 e9 s0 s1 s2 s3 s4 s5 s6 s7 HEN2 HMO HFIN HOX
  go_upto_region 6 with fail
  obtain ⟨w7, hw7⟩ : ∃ w7, w7 = v6.alloc (.cells #[.int .i64 kd, .int .i64 et, .int .i64 tn, .int .i64 cl, .int .i64 ot, .int .i64 ep, .int .i64 fm, .int .i64 un, .int .i64 nn] TEm) := ⟨_, rfl⟩
  obtain ⟨g10, hg10⟩ : ∃ g10, g10 = v6.heap.size := ⟨_, rfl⟩
  have f7 : Fr No v6 w7 := by rw [hw7]; exact fr_alloc _ _
  have he7 : Blk w7 g10 TEm (EnArr ⟨kd, et, tn, cl, ot, ep, fm, un, nn⟩) := by rw [hw7, hg10]; exact Blk.new _ _ _
  have hB6 := HR.out.sz
  have hg10B : B ≤ g10 := by omega
  rw [← hw7, ← hg10]
  replace HR := Lib.hid (HR.out.frNo f7)
  have HOX7 := Lib.hid (HOX6.out.frNo f7)
  clear hw7 hg10 f7 HOX6
  have hka7 := fun V (hV : Fr No w7 V) => (⟨let k := HR.out.cb.fr hV (fun h => h); ⟨k.cell 0, k.cell 1, k.cell 2, k.cell 3, k.cell 4, k.cell 5, k.cell 6, k.cell 7, k.cell 8, k.cell 9⟩, st_cells (HR.out.sb.fr hV (fun h => h)), en_cells (he7.fr hV (fun h => h))⟩ : (V.cell? ⟨g1, 0, none⟩ = some (.int .i64 (rg : Int)) ∧ V.cell? ⟨g1, 1, none⟩ = some (.slice (some ⟨bz, 0, none⟩) nz cz) ∧ V.cell? ⟨g1, 2, none⟩ = some (.slice (some ⟨bc, 0, none⟩) nc cc) ∧ V.cell? ⟨g1, 3, none⟩ = some (.slice At nt ct) ∧ V.cell? ⟨g1, 4, none⟩ = some (.slice (some ⟨bv, 0, none⟩) nv cv) ∧ V.cell? ⟨g1, 5, none⟩ = some (.slice Ar nr cr) ∧ V.cell? ⟨g1, 6, none⟩ = some (.slice Ao no_ co) ∧ V.cell? ⟨g1, 7, none⟩ = some (.int .i64 bl) ∧ V.cell? ⟨g1, 8, none⟩ = some (.int .i64 (le : Int)) ∧ V.cell? ⟨g1, 9, none⟩ = some (.int .i64 (bk : Int))) ∧ (V.cell? ⟨g8, 0, none⟩ = some (.int .i64 tk) ∧ V.cell? ⟨g8, 1, none⟩ = some (.int .i64 cn) ∧ V.cell? ⟨g8, 2, none⟩ = some (.slice Bt mt dt) ∧ V.cell? ⟨g8, 3, none⟩ = some (.slice Bs ms ds) ∧ V.cell? ⟨g8, 4, none⟩ = some (.int .i64 pr) ∧ V.cell? ⟨g8, 5, none⟩ = some (.int .i64 ev) ∧ V.cell? ⟨g8, 6, none⟩ = some (.int .i64 lo) ∧ V.cell? ⟨g8, 7, none⟩ = some (.int .i64 hi)) ∧ (V.cell? ⟨g10, 0, none⟩ = some (.int .i64 kd) ∧ V.cell? ⟨g10, 1, none⟩ = some (.int .i64 et) ∧ V.cell? ⟨g10, 2, none⟩ = some (.int .i64 tn) ∧ V.cell? ⟨g10, 3, none⟩ = some (.int .i64 cl) ∧ V.cell? ⟨g10, 4, none⟩ = some (.int .i64 ot) ∧ V.cell? ⟨g10, 5, none⟩ = some (.int .i64 ep) ∧ V.cell? ⟨g10, 6, none⟩ = some (.int .i64 fm) ∧ V.cell? ⟨g10, 7, none⟩ = some (.int .i64 un) ∧ V.cell? ⟨g10, 8, none⟩ = some (.int .i64 nn)))
  have hap7 := fun V (hV : Fr No w7 V) => HAP.out V (HR.out.fr.transNo hV) _ _ (HR.out.ok.frNo hV) ⟨kd, et, tn, cl, ot, ep, fm, un, nn⟩
  obtain ⟨⟨e0, e1, e2, e3, e4, e5, e6, e7, e8, e9⟩, ⟨s0, s1, s2, s3, s4, s5, s6, s7⟩, ⟨x0, x1, x2, x3, x4, x5, x6, x7, x8⟩⟩ := hka7 w7 (Fr.refl _ _)
  have HKA7 := Lib.hid hka7
  have HAP7 := Lib.hid hap7
  have HE7 := Lib.hid he7
  clear hka7 hap7 he7
  go_wp2_with fail
  refine (HAP7.out _ (Fr.refl _ _)).mono ?_
  rintro r v8 ⟨⟨atk, acn, aBt, amt, adt, aBs, ams, ads, apr, aev, alo, ahi⟩, ak, rfl, hok, f8⟩
  go_upto_region 7 with fail
  obtain ⟨w9, hw9⟩ : ∃ w9, w9 = v8.alloc (.cells #[.int .i64 atk, .int .i64 acn, .slice aBt amt adt, .slice aBs ams ads, .int .i64 apr, .int .i64 aev, .int .i64 alo, .int .i64 ahi] TSt) := ⟨_, rfl⟩
  obtain ⟨g11, hg11⟩ : ∃ g11, g11 = v8.heap.size := ⟨_, rfl⟩
  have f9a : Fr No v8 w9 := by rw [hw9]; exact fr_alloc _ _
  have hb11 : Blk w9 g11 TSt (St.arr ⟨atk, acn, aBt, amt, adt, aBs, ams, ads, apr, aev, alo, ahi⟩) := by rw [hw9, hg11]; exact Blk.new _ _ _
  have f9 := f8.transNo f9a
  have hwB7 := HR.out.fr.size
  have hok9 : ak = 0 → StOk w9 (fun i => w.heap.size ≤ i) ⟨rg, nz, nc, nt, nv, le, bk, bz, bc, bv, cz, cc, ct, cv, At, Ar, nr, cr, Ao, no_, co, bl⟩ ⟨atk, acn, aBt, amt, adt, aBs, ams, ads, apr, aev, alo, ahi⟩ := fun hk => ((hok hk).mono (F := fun i => w.heap.size ≤ i) (fun i hi => by have := hi.1; omega)).frNo f9a
  rw [← hw9, ← hg11]
  replace HR := Lib.hid (HR.out.frNo f9)
  have HOX9 := Lib.hid (HOX7.out.frNo f9)
  clear hw9 hg11 f9a hok f8 e0 e1 e2 e3 e4 e5 e6 e7 e8 e9 s0 s1 s2 s3 s4 s5 s6 s7 x0 x1 x2 x3 x4 x5 x6 x7 x8 HOX7
  obtain ⟨-, ⟨s0, s1, s2, s3, s4, s5, s6, s7⟩, ⟨x0, x1, x2, x3, x4, x5, x6, x7, x8⟩⟩ := HKA7.out w9 f9
  have hkk : k < k2 := j3 (by omega)
  have hms9 : 300 - kOf w9 t < 300 - kOf wr t := by rw [HR.out.tp.kOf, hkof]; omega
  by_cases hk0 : ak = 0
  rotate_left
  · have b8 : (ak == 0) = false := by simpa using hk0
    have hk9 := Lib.hid hk0
    clear hk0 hb11 hok9
    go_wp2_with fail
    go_roundw
    case rel => exact ⟨k2, m, _, by omega, by omega, HR.out⟩
    case measure => exact hms9
  subst hk0
  have hok0 := hok9 rfl
  obtain ⟨y0, y1, y2, y3, y4, y5, y6, y7⟩ := st_cells hb11
  simp only at y0 y1 y2 y3 y4 y5 y6 y7
  have p0 := HR.out.sb.frozen 0
  have p1 := HR.out.sb.frozen 1
  have p2 := HR.out.sb.frozen 2
  have p3 := HR.out.sb.frozen 3
  have p4 := HR.out.sb.frozen 4
  have p5 := HR.out.sb.frozen 5
  have p6 := HR.out.sb.frozen 6
  have p7 := HR.out.sb.frozen 7
  have hput : LgS w t g1 g8 B A n cp ⟨rg, nz, nc, nt, nv, le, bk, bz, bc, bv, cz, cc, ct, cv, At, Ar, nr, cr, Ao, no_, co, bl⟩ (World.setCell (World.setCell (World.setCell (World.setCell (World.setCell (World.setCell (World.setCell (World.setCell w9 ⟨g8, 0, none⟩ (.int .i64 atk)) ⟨g8, 1, none⟩ (.int .i64 acn)) ⟨g8, 2, none⟩ (.slice aBt amt adt)) ⟨g8, 3, none⟩ (.slice aBs ams ads)) ⟨g8, 4, none⟩ (.int .i64 apr)) ⟨g8, 5, none⟩ (.int .i64 aev)) ⟨g8, 6, none⟩ (.int .i64 alo)) ⟨g8, 7, none⟩ (.int .i64 ahi)) k2 m (.slice Ao_ m co_) ⟨atk, acn, aBt, amt, adt, aBs, ams, ads, apr, aev, alo, ahi⟩ := LgS.put (s' := ⟨atk, acn, aBt, amt, adt, aBs, ams, ads, apr, aev, alo, ahi⟩) HR.out hok0 hlow hg8w hne
  have hx9 : Blk (World.setCell (World.setCell (World.setCell (World.setCell (World.setCell (World.setCell (World.setCell (World.setCell w9 ⟨g8, 0, none⟩ (.int .i64 atk)) ⟨g8, 1, none⟩ (.int .i64 acn)) ⟨g8, 2, none⟩ (.slice aBt amt adt)) ⟨g8, 3, none⟩ (.slice aBs ams ads)) ⟨g8, 4, none⟩ (.int .i64 apr)) ⟨g8, 5, none⟩ (.int .i64 aev)) ⟨g8, 6, none⟩ (.int .i64 alo)) ⟨g8, 7, none⟩ (.int .i64 ahi)) g10 TEm (EnArr ⟨kd, et, tn, cl, ot, ep, fm, un, nn⟩) := (HE7.out.fr f9 (fun h => h)).fr (box_put ⟨atk, acn, aBt, amt, adt, aBs, ams, ads, apr, aev, alo, ahi⟩ HR.out.sb).2 (fun e => by have e : g10 = g8 := e; omega)
  have HPUT := Lib.hid hput
  have HX9 := Lib.hid hx9
  clear hput hx9
  go_upto_region 9 with fail
  generalize (World.setCell (World.setCell (World.setCell (World.setCell (World.setCell (World.setCell (World.setCell (World.setCell w9 ⟨g8, 0, none⟩ (.int .i64 atk)) ⟨g8, 1, none⟩ (.int .i64 acn)) ⟨g8, 2, none⟩ (.slice aBt amt adt)) ⟨g8, 3, none⟩ (.slice aBs ams ads)) ⟨g8, 4, none⟩ (.int .i64 apr)) ⟨g8, 5, none⟩ (.int .i64 aev)) ⟨g8, 6, none⟩ (.int .i64 alo)) ⟨g8, 7, none⟩ (.int .i64 ahi)) = w10 at *
  have hput := HPUT.out
  have hx9 := HX9.out
  clear HPUT HX9
  obtain ⟨xs2, hox2, hex2⟩ := hput.row
  clear s0 s1 s2 s3 s4 s5 s6 s7 x0 x1 x2 x3 x4 x5 x6 x7 x8 y0 y1 y2 y3 y4 y5 y6 y7 p0 p1 p2 p3 p4 p5 p6 p7 hms9 HR HOX9
  obtain ⟨x0, x1, x2, x3, x4, x5, x6, x7, x8⟩ := en_cells hx9
  simp only at x0 x1 x2 x3 x4 x5 x6 x7 x8
  have hown := hox2.frNo (fr_alloc w10 (.cells (EnArr ⟨kd, et, tn, cl, ot, ep, fm, un, nn⟩) TEm))
  have hrn := Rd.new w10 _ TEm (xs := (EnArr ⟨kd, et, tn, cl, ot, ep, fm, un, nn⟩).toList) rfl
  have hxl := hox2.1.1
  have hone : ∀ u ∈ (EnArr ⟨kd, et, tn, cl, ot, ep, fm, un, nn⟩).toList, u.oneCell' = true := fun u hu => by
    simp only [List.mem_cons, List.not_mem_nil, or_false] at hu
    rcases hu with rfl | rfl | rfl | rfl | rfl | rfl | rfl | rfl | rfl <;> rfl
  have hap9 := fun V' v' => LgS.app (e := ⟨kd, et, tn, cl, ot, ep, fm, un, nn⟩) (w' := V') (v' := v') (o := .cells (EnArr ⟨kd, et, tn, cl, ot, ep, fm, un, nn⟩) TEm) hput hox2 hex2 hwB htB hlow
  clear hb11 hok0 hok9 f9
  have HOWN := Lib.hid hown
  have HRN := Lib.hid hrn
  have HONE := Lib.hid hone
  have HAP9 := Lib.hid hap9
  have HPUT := Lib.hid hput
  have HOX2 := Lib.hid hox2
  have HEX2 := Lib.hid hex2
  have HX9 := Lib.hid hx9
  clear hown hrn hone hap9 hput hox2 hex2 hx9
  go_wp2_with (at_builtin; refine wpList_append_rdN _ rfl (.tmp 39) (.tmp 41) _ rfl 0 TEm ie ze 9 72 Tryd.underlying93 hie hz0e hz1e hz2e hzse (by decide) (.slice Ao_ m co_) m xs2 rfl HOWN.out.1 (w10.heap.size + 1) (some ⟨w10.heap.size, 0, none⟩) 1 1 (EnArr ⟨kd, et, tn, cl, ot, ep, fm, un, nn⟩).toList rfl (fun h => by cases h) HRN.out rfl HONE.out (by unfold maxLen; omega) (by omega) (Nat.zero_le _) ?_)
  intro v1 w11 happ
  have hr11 := HAP9.out _ _ happ
  have hms9 : 300 - kOf w11 t < 300 - kOf wr t := by rw [hr11.tp.kOf, hkof]; omega
  clear happ
  have HR11 := Lib.hid hr11
  clear hr11
  go_wp2_with fail
  go_roundw
  case rel => exact ⟨k2, m + 1, _, by omega, by omega, HR11.out⟩
  case measure => exact hms9
end Go.Proofs.YtanhbebikcoliaaDoor
/- State. -/
namespace Go.Proofs.YtanhbebikcoliaaDoor
open Go.ChangeShapes Go.WideShapes Go.ChangeAt Go.RowKit
set_option linter.unusedVariables false
theorem state_results (s : St) (g : Nat) (ts : Array Value) (W : World) (hb : Blk W g TSt s.arr) (h2 : ts[6]?.getD undef = .pointer (some ⟨g, 0, none⟩)) :
    (results Tryd.f26 ts).run Tryd.prog W = .ok (.agg s.arr) W := by
  obtain ⟨c0, c1, c2, c3, c4, c5, c6, c7⟩ := st_cells hb
  clear hb
  simp [results, Tryd.results26, go_sem, h2, c0, c1, c2, c3, c4, c5, c6, c7]
/-- A new box with a state. -/
def StN (w w2 : World) (c : Cf) (p : Value) (wx : World) : Prop := ∃ (g7 : Nat) (s : St), p = .pointer (some ⟨g7, 0, none⟩) ∧ Blk wx g7 TSt s.arr ∧ StOk wx (fun i => w.heap.size ≤ i) c s ∧ Fr No w2 wx
theorem StN.a {w w2 v : World} {c : Cf} (s : St) (hok : StOk v (fun i => w.heap.size ≤ i) c s) (hf : Fr No w2 v) : StN w w2 c (.pointer (some ⟨v.heap.size, 0, none⟩)) (v.alloc (.cells s.arr TSt)) :=
  ⟨_, s, rfl, Blk.new _ _ _, hok.frNo (fr_alloc _ _), hf.alloc _⟩
theorem StN.b {w w2 v : World} {c : Cf} (s : St) (q : Nat) (hz : Blk v q TSt stZero.arr) (hq : w2.heap.size ≤ q) (hok : StOk v (fun i => w.heap.size ≤ i) c s) (hf : Fr No w2 v) : StN w w2 c (.pointer (some ⟨q, 0, none⟩)) (World.setCell (World.setCell (World.setCell (World.setCell (World.setCell (World.setCell (World.setCell (World.setCell v ⟨q, 0, none⟩ (.int .i64 s.tk)) ⟨q, 1, none⟩ (.int .i64 s.cn)) ⟨q, 2, none⟩ (.slice s.Bt s.mt s.dt)) ⟨q, 3, none⟩ (.slice s.Bs s.ms s.ds)) ⟨q, 4, none⟩ (.int .i64 s.pr)) ⟨q, 5, none⟩ (.int .i64 s.ev)) ⟨q, 6, none⟩ (.int .i64 s.lo)) ⟨q, 7, none⟩ (.int .i64 s.hi)) :=
  ⟨_, s, rfl, st_fill s hz, hok.putBox s hz, hf.transNew (box_put s hz).2 (fun i hi => by have hi : i = q := hi; omega)⟩
/-- What State answers. -/
def StAn (w : World) (c : Cf) (e : Ending) (w' : World) : Prop := ∃ s : St, e = .returned (.agg s.arr) ∧ StOk w' (fun i => w.heap.size ≤ i ∧ i < w'.heap.size) c s ∧ Fr No w w'
theorem StAn.fill {w W : World} {c : Cf} {q : Nat} (s : St) (hok : StOk W (fun i => w.heap.size ≤ i) c s) (hf : Fr No w W) (hz : Blk W q TSt stZero.arr) (hq : w.heap.size ≤ q) : StAn w c (.returned (.agg s.arr)) (World.setCell (World.setCell (World.setCell (World.setCell (World.setCell (World.setCell (World.setCell (World.setCell W ⟨q, 0, none⟩ (.int .i64 s.tk)) ⟨q, 1, none⟩ (.int .i64 s.cn)) ⟨q, 2, none⟩ (.slice s.Bt s.mt s.dt)) ⟨q, 3, none⟩ (.slice s.Bs s.ms s.ds)) ⟨q, 4, none⟩ (.int .i64 s.pr)) ⟨q, 5, none⟩ (.int .i64 s.ev)) ⟨q, 6, none⟩ (.int .i64 s.lo)) ⟨q, 7, none⟩ (.int .i64 s.hi)) :=
  ⟨s, rfl, (hok.putBox s hz).bound, hf.transNew (box_put s hz).2 (fun i hi => by have hi : i = q := hi; omega)⟩
set_option maxRecDepth 100000 in
set_option maxHeartbeats 4000000 in
theorem state_any {w : World} {c : Cf} (h : CfOk w c) {A : Option Addr} {n cp : Nat} (hl : LsIn w A n) (hn : n ≤ 200) (lim : Int) (hlim : 0 ≤ lim ∧ lim ≤ 500) :
    Calls Tryd.prog 26 #[.slice A n cp, .agg c.arr, .int .i64 lim] w (StAn w c) := by
  have hlg := fun W (hf : Fr No w W) => log_any (cp := cp) (h.frNo hf) (hl.fr hf) hn lim hlim
  have hfo := fun W (hf : Fr No w W) A n cap (hr : EnRow W A n) (hn : n ≤ 1000) => fold_any (cap := cap) (h.frNo hf) hr hn
  obtain ⟨rg, nz, nc, nt, nv, le, bk, bz, bc, bv, cz, cc, ct, cv, At, Ar, nr, cr, Ao, no_, co, bl⟩ := c
  try simp only at *
  clear h
  obtain ⟨w1, hw1⟩ : ∃ w1, w1 = w.alloc (.cells #[.int .i64 (rg : Int), .slice (some ⟨bz, 0, none⟩) nz cz, .slice (some ⟨bc, 0, none⟩) nc cc, .slice At nt ct, .slice (some ⟨bv, 0, none⟩) nv cv, .slice Ar nr cr, .slice Ao no_ co, .int .i64 bl, .int .i64 (le : Int), .int .i64 (bk : Int)] TCf) := ⟨_, rfl⟩
  obtain ⟨g1, hg1⟩ : ∃ g1, g1 = w.heap.size := ⟨_, rfl⟩
  have hb1 : Blk w1 g1 TCf #[.int .i64 (rg : Int), .slice (some ⟨bz, 0, none⟩) nz cz, .slice (some ⟨bc, 0, none⟩) nc cc, .slice At nt ct, .slice (some ⟨bv, 0, none⟩) nv cv, .slice Ar nr cr, .slice Ao no_ co, .int .i64 bl, .int .i64 (le : Int), .int .i64 (bk : Int)] := by rw [hw1, hg1]; exact Blk.new _ _ _
  have f1 : Fr No w w1 := by rw [hw1]; exact fr_alloc _ _
  have hs1 : w1.heap.size = g1 + 1 := by rw [hw1, hg1]; simp
  obtain ⟨w2, hw2⟩ : ∃ w2, w2 = w1.alloc (.cells #[.int .i64 0, .int .i64 0, .slice none 0 0, .slice none 0 0, .int .i64 0, .int .i64 0, .int .i64 0, .int .i64 0] TSt) := ⟨_, rfl⟩
  obtain ⟨g2, hg2⟩ : ∃ g2, g2 = w1.heap.size := ⟨_, rfl⟩
  have hb2 : Blk w2 g2 TSt #[.int .i64 0, .int .i64 0, .slice none 0 0, .slice none 0 0, .int .i64 0, .int .i64 0, .int .i64 0, .int .i64 0] := by rw [hw2, hg2]; exact Blk.new _ _ _
  have f2 : Fr No w1 w2 := by rw [hw2]; exact fr_alloc _ _
  have hs2 : w2.heap.size = g2 + 1 := by rw [hw2, hg2]; simp
  have hB1 : Blk w2 g1 TCf #[.int .i64 (rg : Int), .slice (some ⟨bz, 0, none⟩) nz cz, .slice (some ⟨bc, 0, none⟩) nc cc, .slice At nt ct, .slice (some ⟨bv, 0, none⟩) nv cv, .slice Ar nr cr, .slice Ao no_ co, .int .i64 bl, .int .i64 (le : Int), .int .i64 (bk : Int)] := hb1.fr ((Fr.refl No _).transNo f2) (fun h => h)
  have hB2 : Blk w2 g2 TSt #[.int .i64 0, .int .i64 0, .slice none 0 0, .slice none 0 0, .int .i64 0, .int .i64 0, .int .i64 0, .int .i64 0] := hb2.fr (Fr.refl No _) (fun h => h)
  have fW : Fr No w w2 := ((Fr.refl No w).transNo f1).transNo f2
  have he2 : g2 = g1 + 1 := by rw [hg2, hs1]
  have hka : ∀ V, Fr No w2 V → (V.cell? ⟨g1, 0, none⟩ = some (.int .i64 (rg : Int)) ∧ V.cell? ⟨g1, 1, none⟩ = some (.slice (some ⟨bz, 0, none⟩) nz cz) ∧ V.cell? ⟨g1, 2, none⟩ = some (.slice (some ⟨bc, 0, none⟩) nc cc) ∧ V.cell? ⟨g1, 3, none⟩ = some (.slice At nt ct) ∧ V.cell? ⟨g1, 4, none⟩ = some (.slice (some ⟨bv, 0, none⟩) nv cv) ∧ V.cell? ⟨g1, 5, none⟩ = some (.slice Ar nr cr) ∧ V.cell? ⟨g1, 6, none⟩ = some (.slice Ao no_ co) ∧ V.cell? ⟨g1, 7, none⟩ = some (.int .i64 bl) ∧ V.cell? ⟨g1, 8, none⟩ = some (.int .i64 (le : Int)) ∧ V.cell? ⟨g1, 9, none⟩ = some (.int .i64 (bk : Int))) ∧ (V.cell? ⟨g2, 0, none⟩ = some (.int .i64 0) ∧ V.cell? ⟨g2, 1, none⟩ = some (.int .i64 0) ∧ V.cell? ⟨g2, 2, none⟩ = some (.slice none 0 0) ∧ V.cell? ⟨g2, 3, none⟩ = some (.slice none 0 0) ∧ V.cell? ⟨g2, 4, none⟩ = some (.int .i64 0) ∧ V.cell? ⟨g2, 5, none⟩ = some (.int .i64 0) ∧ V.cell? ⟨g2, 6, none⟩ = some (.int .i64 0) ∧ V.cell? ⟨g2, 7, none⟩ = some (.int .i64 0)) := fun V hf => ⟨(let k := hB1.fr hf (fun h => h); ⟨k.cell 0, k.cell 1, k.cell 2, k.cell 3, k.cell 4, k.cell 5, k.cell 6, k.cell 7, k.cell 8, k.cell 9⟩), (let k := hB2.fr hf (fun h => h); ⟨k.cell 0, k.cell 1, k.cell 2, k.cell 3, k.cell 4, k.cell 5, k.cell 6, k.cell 7⟩)⟩
  have hW : w2 = (w.alloc (.cells #[.int .i64 (rg : Int), .slice (some ⟨bz, 0, none⟩) nz cz, .slice (some ⟨bc, 0, none⟩) nc cc, .slice At nt ct, .slice (some ⟨bv, 0, none⟩) nv cv, .slice Ar nr cr, .slice Ao no_ co, .int .i64 bl, .int .i64 (le : Int), .int .i64 (bk : Int)] TCf)).alloc (.cells #[.int .i64 0, .int .i64 0, .slice none 0 0, .slice none 0 0, .int .i64 0, .int .i64 0, .int .i64 0, .int .i64 0] TSt) := by rw [hw2, hw1]
  have hl1 : g1 < w2.heap.size := hB1.lt
  have hl2 : g2 < w2.heap.size := hB2.lt
  clear hw1 hb1 hs1 hw2 hb2 hs2
  have HG1 := Lib.hid hg1
  have HG2 := Lib.hid hg2
  have HE2 := Lib.hid he2
  clear hg1 hg2 he2
  have hgz : w.heap.size ≤ g2 := by rw [HE2.out, HG1.out]; omega
  have hz := fun V (hV : Fr No w2 V) => hB2.fr hV (fun h => h)
  have hcc := fun V (hV : Fr No w2 V) => (let k := hB1.fr hV (fun h => h); ⟨k.cell 0, k.cell 1, k.cell 2, k.cell 3, k.cell 4, k.cell 5, k.cell 6, k.cell 7, k.cell 8, k.cell 9⟩ : V.cell? ⟨g1, 0, none⟩ = some (.int .i64 (rg : Int)) ∧ V.cell? ⟨g1, 1, none⟩ = some (.slice (some ⟨bz, 0, none⟩) nz cz) ∧ V.cell? ⟨g1, 2, none⟩ = some (.slice (some ⟨bc, 0, none⟩) nc cc) ∧ V.cell? ⟨g1, 3, none⟩ = some (.slice At nt ct) ∧ V.cell? ⟨g1, 4, none⟩ = some (.slice (some ⟨bv, 0, none⟩) nv cv) ∧ V.cell? ⟨g1, 5, none⟩ = some (.slice Ar nr cr) ∧ V.cell? ⟨g1, 6, none⟩ = some (.slice Ao no_ co) ∧ V.cell? ⟨g1, 7, none⟩ = some (.int .i64 bl) ∧ V.cell? ⟨g1, 8, none⟩ = some (.int .i64 (le : Int)) ∧ V.cell? ⟨g1, 9, none⟩ = some (.int .i64 (bk : Int)))
  have HLG := Lib.hid hlg
  have HFO := Lib.hid hfo
  have HKA := Lib.hid hka
  have HW := Lib.hid hW
  have HZ := Lib.hid hz
  have HCC := Lib.hid hcc
  clear hlg hfo hka hW hz hcc
  go_enter Tryd.func26, Tryd.ntmps26
  go_upto_region 1 with fail
  rw [← HW.out]
  try rw [← show g2 = w.heap.size + 1 from by rw [HE2.out, HG1.out]]
  try rw [← HG1.out]
  obtain ⟨e0, e1, e2, e3, e4, e5, e6, e7, e8, e9⟩ := HCC.out w2 (Fr.refl _ _)
  have hw2s := fW.size
  go_cut [7] from 10 to 19 (fun p wx => StN w w2 ⟨rg, nz, nc, nt, nv, le, bk, bz, bc, bv, cz, cc, ct, cv, At, Ar, nr, cr, Ao, no_, co, bl⟩ p wx)
  case first =>
    go_region_held3 (fun V => Fr No w2 V ∧ (V.cell? ⟨g1, 0, none⟩ = some (.int .i64 (rg : Int)) ∧ V.cell? ⟨g1, 1, none⟩ = some (.slice (some ⟨bz, 0, none⟩) nz cz) ∧ V.cell? ⟨g1, 2, none⟩ = some (.slice (some ⟨bc, 0, none⟩) nc cc) ∧ V.cell? ⟨g1, 3, none⟩ = some (.slice At nt ct) ∧ V.cell? ⟨g1, 4, none⟩ = some (.slice (some ⟨bv, 0, none⟩) nv cv) ∧ V.cell? ⟨g1, 5, none⟩ = some (.slice Ar nr cr) ∧ V.cell? ⟨g1, 6, none⟩ = some (.slice Ao no_ co) ∧ V.cell? ⟨g1, 7, none⟩ = some (.int .i64 bl) ∧ V.cell? ⟨g1, 8, none⟩ = some (.int .i64 (le : Int)) ∧ V.cell? ⟨g1, 9, none⟩ = some (.int .i64 (bk : Int)))) (first | (refine ⟨?_, HCC.out _ ?_⟩ <;> (with_reducible ((repeat (first | assumption | exact Fr.refl _ _ | refine Fr.alloc ?_ _ | refine Fr.drew ?_ | refine Fr.drewN ?_ _)); done))) | (have hB := Q6.transNew (box_put ⟨atk, acn, aBt, amt, adt, aBs, ams, ads, apr, aev, alo, ahi⟩ HZ9.out).2 (fun i hi => by have hi : i = _ := hi; subst hi; first | exact Nat.le_refl _ | exact Q5.size); exact ⟨hB, HCC.out _ hB⟩) | (have hB := (Q6.transNew (box_put ⟨atk, acn, aBt, amt, adt, aBs, ams, ads, apr, aev, alo, ahi⟩ HZ9.out).2 (fun i hi => by have hi : i = _ := hi; subst hi; first | exact Nat.le_refl _ | exact Q5.size)).drew; exact ⟨hB, HCC.out _ hB⟩)) (first
      | (go_at_call 44; refine (HLG.out _ (fW.transNo (by repeat (first | assumption | exact Fr.refl _ _ | refine Fr.alloc ?_ _ | refine Fr.drew ?_ | refine Fr.drewN ?_ _)))).mono ?_; rintro r v5 ⟨A1, m1, c1, xs1, rfl, hm1, her, f5⟩; have Q5 : Fr No w2 v5 := Fr.transNo (by repeat (first | assumption | exact Fr.refl _ _ | refine Fr.alloc ?_ _ | refine Fr.drew ?_ | refine Fr.drewN ?_ _)) f5; have HER := Lib.hid her; clear her; first | (have HZ5 := Lib.hid ((Blk.drewn (Blk.new w2 TSt stZero.arr)).fr f5 (fun h => h))) | skip)
      | (go_at_call 43; refine (HFO.out _ (fW.transNo (Q5.transNo (by repeat (first | assumption | exact Fr.refl _ _ | refine Fr.alloc ?_ _ | refine Fr.drew ?_ | refine Fr.drewN ?_ _)))) _ _ _ (HER.out.fr (by repeat (first | assumption | exact Fr.refl _ _ | refine Fr.alloc ?_ _ | refine Fr.drew ?_ | refine Fr.drewN ?_ _))) hm1).mono ?_; rintro r v6 ⟨⟨atk, acn, aBt, amt, adt, aBs, ams, ads, apr, aev, alo, ahi⟩, ii, kk, rfl, hok, f6⟩; have Q6 : Fr No w2 v6 := Q5.transNo (Fr.transNo (by repeat (first | assumption | exact Fr.refl _ _ | refine Fr.alloc ?_ _ | refine Fr.drew ?_ | refine Fr.drewN ?_ _)) f6); have HOK := Lib.hid hok; first | (have hz9 := HZ5.out.fr f6 (fun h => h); obtain ⟨y0, y1, y2, y3, y4, y5, y6, y7⟩ := st_cells (s := stZero) hz9; simp only at y0 y1 y2 y3 y4 y5 y6 y7; have p0 := hz9.frozen 0; have p1 := hz9.frozen 1; have p2 := hz9.frozen 2; have p3 := hz9.frozen 3; have p4 := hz9.frozen 4; have p5 := hz9.frozen 5; have p6 := hz9.frozen 6; have p7 := hz9.frozen 7; have HZ9 := Lib.hid hz9; clear hz9) | (have hz9 := (Blk.new v5 TSt stZero.arr).fr f6 (fun h => h); obtain ⟨y0, y1, y2, y3, y4, y5, y6, y7⟩ := st_cells (s := stZero) hz9; simp only at y0 y1 y2 y3 y4 y5 y6 y7; have p0 := hz9.frozen 0; have p1 := hz9.frozen 1; have p2 := hz9.frozen 2; have p3 := hz9.frozen 3; have p4 := hz9.frozen 4; have p5 := hz9.frozen 5; have p6 := hz9.frozen 6; have p7 := hz9.frozen 7; have HZ9 := Lib.hid hz9; clear hz9) | skip))
    all_goals go_wp2_with fail
    all_goals go_meet
    all_goals have hok9 : StOk v6 (fun i => w.heap.size ≤ i) ⟨rg, nz, nc, nt, nv, le, bk, bz, bc, bv, cz, cc, ct, cv, At, Ar, nr, cr, Ao, no_, co, bl⟩ ⟨atk, acn, aBt, amt, adt, aBs, ams, ads, apr, aev, alo, ahi⟩ := HOK.out.mono (fun i hi => by have h1 := hi.1; have h2 := Q5.size; (try simp at h1); omega)
    all_goals first
      | with_reducible exact StN.a ⟨atk, acn, aBt, amt, adt, aBs, ams, ads, apr, aev, alo, ahi⟩ hok9 Q6
      | with_reducible exact StN.b ⟨atk, acn, aBt, amt, adt, aBs, ams, ads, apr, aev, alo, ahi⟩ v5.heap.size HZ9.out Q5.size hok9 Q6
      | with_reducible exact StN.b ⟨atk, acn, aBt, amt, adt, aBs, ams, ads, apr, aev, alo, ahi⟩ w2.heap.size HZ9.out (Nat.le_refl _) hok9 Q6
  obtain ⟨g7, ⟨atk, acn, aBt, amt, adt, aBs, ams, ads, apr, aev, alo, ahi⟩, rfl, hb7, hok, hf⟩ := hcut
  clear e0 e1 e2 e3 e4 e5 e6 e7 e8 e9
  obtain ⟨s0, s1, s2, s3, s4, s5, s6, s7⟩ := st_cells hb7
  simp only at s0 s1 s2 s3 s4 s5 s6 s7
  have hz9 := HZ.out _ hf
  obtain ⟨z0, z1, z2, z3, z4, z5, z6, z7⟩ := st_cells (s := stZero) hz9
  simp only at z0 z1 z2 z3 z4 z5 z6 z7
  have q0 := hz9.frozen 0
  have q1 := hz9.frozen 1
  have q2 := hz9.frozen 2
  have q3 := hz9.frozen 3
  have q4 := hz9.frozen 4
  have q5 := hz9.frozen 5
  have q6 := hz9.frozen 6
  have q7 := hz9.frozen 7
  have hT := StAn.fill ⟨atk, acn, aBt, amt, adt, aBs, ams, ads, apr, aev, alo, ahi⟩ hok (fW.transNo hf) hz9 hgz
  have hT8 := st_fill (q := g2) (z := stZero) ⟨atk, acn, aBt, amt, adt, aBs, ams, ads, apr, aev, alo, ahi⟩ hz9
  clear hz9 hok hb7
  have HT := Lib.hid hT
  have HT8 := Lib.hid hT8
  clear hT hT8
  go_wp2_with fail
  exact bodyPost_ret (v := .agg (St.arr ⟨atk, acn, aBt, amt, adt, aBs, ams, ads, apr, aev, alo, ahi⟩)) (state_results ⟨atk, acn, aBt, amt, adt, aBs, ams, ads, apr, aev, alo, ahi⟩ g2 _ _ HT8.out rfl) rfl HT.out
end Go.Proofs.YtanhbebikcoliaaDoor
/- A configuration under construction. -/
namespace Go.Proofs.YtanhbebikcoliaaDoor
open Go.ChangeShapes Go.WideShapes Go.ChangeAt Go.RowKit
set_option linter.unusedVariables false
abbrev TZn : TypeId := 71
abbrev TCl : TypeId := 73
/-- Rows of 'size' cells, each as P says. -/
def RowsP (size : Nat) (P : List Value → Prop) (n : Nat) (xs : List Value) : Prop := xs.length = n * size ∧ ∀ i, i < n → ∃ row : List Value, P row ∧ row.length = size ∧ ∀ j, j < size → xs[i * size + j]? = row[j]?
theorem RowsP.nil (size : Nat) (P : List Value → Prop) : RowsP size P 0 [] := ⟨by simp, fun i hi => by omega⟩
theorem RowsP.imp {size n : Nat} {P Q : List Value → Prop} {xs : List Value} (h : RowsP size P n xs) (hPQ : ∀ r, P r → Q r) : RowsP size Q n xs := ⟨h.1, fun i hi => let ⟨row, h1, h2, h3⟩ := h.2 i hi; ⟨row, hPQ row h1, h2, h3⟩⟩
theorem RowsP.snoc {size n : Nat} {P : List Value → Prop} {xs row : List Value} (h : RowsP size P n xs) (hP : P row) (hl : row.length = size) : RowsP size P (n + 1) (xs ++ row) := by
  refine ⟨by rw [List.length_append, h.1, hl, Nat.succ_mul], fun i hi => ?_⟩
  by_cases hlt : i < n
  · obtain ⟨r, h1, h2, h3⟩ := h.2 i hlt
    have hm : (i + 1) * size ≤ n * size := Nat.mul_le_mul_right _ hlt
    rw [Nat.succ_mul] at hm
    refine ⟨r, h1, h2, fun j hj => ?_⟩
    rw [List.getElem?_append_left (by rw [h.1]; omega)]
    exact h3 j hj
  · obtain rfl : i = n := by omega
    refine ⟨row, hP, hl, fun j hj => ?_⟩
    rw [List.getElem?_append_right (by rw [h.1]; omega), h.1, Nat.add_sub_cancel_left]
def ZP (rg : Nat) (row : List Value) : Prop := ∃ r : Nat, r < rg ∧ row = [.int .i64 (r : Int)]
def CP (nz : Nat) (row : List Value) : Prop := ∃ (z : Nat) (a : Int), z < nz ∧ row = [.int .i64 (z : Int), .int .i64 a]
def TP (row : List Value) : Prop := ∃ (a b p l d g : Int) (n : Bool), row = [.int .i64 a, .int .i64 b, .int .i64 p, .int .i64 l, .int .i64 d, .int .i64 g, .bool n]
def VP (row : List Value) : Prop := ∃ a b : Int, row = [.int .i64 a, .int .i64 b]
structure Cv where
  rg : Nat
  le : Nat
  bk : Nat
  bl : Int
  Az : Option Addr
  nz : Nat
  cz : Nat
  Ac : Option Addr
  nc : Nat
  cc : Nat
  At : Option Addr
  nt : Nat
  ct : Nat
  Av : Option Addr
  nv : Nat
  cv : Nat
  Ar : Option Addr
  nr : Nat
  cr : Nat
  Ao : Option Addr
  no_ : Nat
  co : Nat
abbrev Cv.arr (v : Cv) : Array Value := #[.int .i64 (v.rg : Int), .slice v.Az v.nz v.cz, .slice v.Ac v.nc v.cc, .slice v.At v.nt v.ct, .slice v.Av v.nv v.cv, .slice v.Ar v.nr v.cr, .slice v.Ao v.no_ v.co, .int .i64 v.bl, .int .i64 (v.le : Int), .int .i64 (v.bk : Int)]
/-- A configuration under construction in box g. -/
structure CfS (w0 : World) (t g B : Nat) (A : Option Addr) (n cp : Nat) (wr : World) (k : Nat) (v : Cv) : Prop where
  box : Blk wr g TCf v.arr
  rz : ∃ xs, OwnN wr (fun i => B ≤ i) TZn 1 (.slice v.Az v.nz v.cz) v.nz xs ∧ RowsP 1 (ZP v.rg) v.nz xs
  rc : ∃ xs, OwnN wr (fun i => B ≤ i) TCl 2 (.slice v.Ac v.nc v.cc) v.nc xs ∧ RowsP 2 (CP v.nz) v.nc xs
  rt : ∃ xs, OwnN wr (fun i => B ≤ i) TTn 7 (.slice v.At v.nt v.ct) v.nt xs ∧ RowsP 7 TP v.nt xs
  rv : ∃ xs, OwnN wr (fun i => B ≤ i) TVr 2 (.slice v.Av v.nv v.cv) v.nv xs ∧ RowsP 2 VP v.nv xs
  tp : Tp wr t A n cp k
  fr : Fr No w0 wr
  sz : B ≤ wr.heap.size
section
variable {w0 wr V w' : World} {t g B : Nat} {A : Option Addr} {n cp k k' : Nat} {v : Cv}
theorem OwnN.tapeFr {w W : World} {F : Nat → Prop} {e : TypeId} {s m : Nat} {u : Value} {xs : List Value} (h : OwnN w F e s u m xs) (ht : Tp w t A n cp k) (hf : Fr (fun i => i = t) w W) (hne : e ≠ TTp) : OwnN W F e s u m xs :=
  h.fr' hf fun b hb e => (h.ne_blk ht.blk hne) b hb e
theorem CfS.tape {W : World} (h : CfS w0 t g B A n cp wr k v) (ht : Tp W t A n cp k') (hf : Fr (fun i => i = t) wr W) (hw : w0.heap.size ≤ t) : CfS w0 t g B A n cp W k' v := by
  obtain ⟨b, ⟨z, z1, z2⟩, ⟨c, c1, c2⟩, ⟨s, s1, s2⟩, ⟨u, u1, u2⟩, h1, h2, h3⟩ := h
  exact ⟨b.fr hf (h1.ne b (by decide)), ⟨z, z1.tapeFr h1 hf (by decide), z2⟩, ⟨c, c1.tapeFr h1 hf (by decide), c2⟩, ⟨s, s1.tapeFr h1 hf (by decide), s2⟩, ⟨u, u1.tapeFr h1 hf (by decide), u2⟩, ht, h2.transNew hf (fun i hi => by have hi : i = t := hi; omega), Nat.le_trans h3 hf.size⟩
theorem CfS.frNo {W : World} (h : CfS w0 t g B A n cp wr k v) (hf : Fr No wr W) : CfS w0 t g B A n cp W k v := by
  obtain ⟨b, ⟨z, z1, z2⟩, ⟨c, c1, c2⟩, ⟨s, s1, s2⟩, ⟨u, u1, u2⟩, h1, h2, h3⟩ := h
  exact ⟨b.fr hf (fun h => h), ⟨z, z1.frNo hf, z2⟩, ⟨c, c1.frNo hf, c2⟩, ⟨s, s1.frNo hf, s2⟩, ⟨u, u1.frNo hf, u2⟩, h1.frNo hf, h2.transNo hf, Nat.le_trans h3 hf.size⟩
/-- A row of one's own beside a call that turns another row. -/
theorem own_keep {F G : Nat → Prop} {e e' : TypeId} {s s' m m' : Nat} {u u' : Value} {xs xs' : List Value} (h : OwnN V F e s u m xs) (h' : OwnN V G e' s' u' m' xs') (hf : Fr (fun i => u'.ownBlock = some i) V w') (hne : e ≠ e') : OwnN w' F e s u m xs := h.fr' hf (OwnN.apart h h' hne)
theorem own_box {F : Nat → Prop} {e : TypeId} {s m j : Nat} {u x : Value} {xs : List Value} {cs : Array Value} (h : OwnN V F e s u m xs) (hb : Blk V g TCf cs) (hne : e ≠ TCf) : OwnN (V.setCell ⟨g, j, none⟩ x) F e s u m xs :=
  h.fr' (fr_set V ⟨g, j, none⟩ x) fun b hb' e => (h.ne_blk hb hne) b hb' e
/-- A row is made longer. -/
theorem own_app {F : Nat → Prop} {e : TypeId} {s m : Nat} {u u' : Value} {P : List Value → Prop} {xs row : List Value} (hF : ∀ i, V.heap.size ≤ i → F i) (h : OwnN V F e s u m xs) (hp : RowsP s P m xs) (hP : P row) (hl : row.length = s) (happ : AppendedN V 0 e s u m xs row 1 u' w') :
    ∃ A1 c1 xs', u' = .slice A1 (m + 1) c1 ∧ OwnN w' F e s u' (m + 1) xs' ∧ RowsP s P (m + 1) xs' ∧ Fr (fun i => u.ownBlock = some i) V w' := by
  obtain ⟨o1, f1⟩ := h.appended happ
  obtain ⟨A1, c1, e1, -⟩ := o1.form
  exact ⟨A1, c1, _, e1, o1.mono (fun i hi => by rcases hi with hi | hi; exact hi; exact hF i (by omega)), hp.snoc hP hl, app_row h happ⟩
theorem CfS.app_z (h : CfS w0 t g B A n cp V k v) (hB : w0.heap.size ≤ B) (htB : t < B) (hgB : g < B) (hgw : w0.heap.size ≤ g) (hl : TpLow A n w0.heap.size) {row xs : List Value} {v' : Value} (z1' : OwnN V (fun i => B ≤ i) TZn 1 (.slice v.Az v.nz v.cz) v.nz xs) (z2' : RowsP 1 (ZP v.rg) v.nz xs) (hP : (ZP v.rg) row) (hl' : row.length = 1)
    (happ : AppendedN V 0 TZn 1 (.slice v.Az v.nz v.cz) v.nz xs row 1 v' w') : ∃ A1 c1, v' = .slice A1 (v.nz + 1) c1 ∧ Blk w' g TCf v.arr ∧ CfS w0 t g B A n cp (w'.setCell ⟨g, 1, none⟩ v') k { v with Az := A1, nz := v.nz + 1, cz := c1 } := by
  obtain ⟨b, ⟨z, z1, z2⟩, ⟨c, c1, c2⟩, ⟨t_, t1, t2⟩, ⟨v_, v1, v2⟩, h1, h2, h3⟩ := h
  clear z1 z2
  obtain ⟨A1, d1, xs', e1, o1, r1, f1⟩ := own_app (fun i hi => Nat.le_trans h3 hi) z1' z2' hP hl' happ
  subst e1
  have hF : ∀ i, (Value.slice v.Az v.nz v.cz).ownBlock = some i → B ≤ i := fun i hi => z1'.2 i hi
  have hb := b.fr f1 (fun e => by have := hF g e; omega)
  refine ⟨A1, d1, rfl, hb, ?_⟩
  have ht := h1.type f1 hl (fun i hi => ⟨fun e => by have := hF i hi; omega, Nat.le_trans hB (hF i hi)⟩)
  have hff := h2.transNew f1 (fun i hi => Nat.le_trans hB (hF i hi))
  exact ⟨Blk.cv (hb.set_ 1 _) rfl, ⟨_, own_box o1 hb (by decide), r1⟩, ⟨c, own_box (own_keep c1 z1' f1 (by decide)) hb (by decide), (c2.imp (fun r hr => let ⟨z, a, h1, h2⟩ := hr; ⟨z, a, Nat.lt_succ_of_lt h1, h2⟩))⟩, ⟨t_, own_box (own_keep t1 z1' f1 (by decide)) hb (by decide), t2⟩, ⟨v_, own_box (own_keep v1 z1' f1 (by decide)) hb (by decide), v2⟩, ht.set hl hgw (h1.ne b (by decide)), hff.transNew (fr_set w' ⟨g, 1, none⟩ _) (fun i hi => by have hi : i = g := hi; omega), by have := f1.size; have := (fr_set w' ⟨g, 1, none⟩ (.slice A1 (v.nz + 1) d1)).size; omega⟩
theorem CfS.app_c (h : CfS w0 t g B A n cp V k v) (hB : w0.heap.size ≤ B) (htB : t < B) (hgB : g < B) (hgw : w0.heap.size ≤ g) (hl : TpLow A n w0.heap.size) {row xs : List Value} {v' : Value} (z1' : OwnN V (fun i => B ≤ i) TCl 2 (.slice v.Ac v.nc v.cc) v.nc xs) (z2' : RowsP 2 (CP v.nz) v.nc xs) (hP : (CP v.nz) row) (hl' : row.length = 2)
    (happ : AppendedN V 0 TCl 2 (.slice v.Ac v.nc v.cc) v.nc xs row 1 v' w') : ∃ A1 c1, v' = .slice A1 (v.nc + 1) c1 ∧ Blk w' g TCf v.arr ∧ CfS w0 t g B A n cp (w'.setCell ⟨g, 2, none⟩ v') k { v with Ac := A1, nc := v.nc + 1, cc := c1 } := by
  obtain ⟨b, ⟨z, z1, z2⟩, ⟨c, c1, c2⟩, ⟨t_, t1, t2⟩, ⟨v_, v1, v2⟩, h1, h2, h3⟩ := h
  clear c1 c2
  obtain ⟨A1, d1, xs', e1, o1, r1, f1⟩ := own_app (fun i hi => Nat.le_trans h3 hi) z1' z2' hP hl' happ
  subst e1
  have hF : ∀ i, (Value.slice v.Ac v.nc v.cc).ownBlock = some i → B ≤ i := fun i hi => z1'.2 i hi
  have hb := b.fr f1 (fun e => by have := hF g e; omega)
  refine ⟨A1, d1, rfl, hb, ?_⟩
  have ht := h1.type f1 hl (fun i hi => ⟨fun e => by have := hF i hi; omega, Nat.le_trans hB (hF i hi)⟩)
  have hff := h2.transNew f1 (fun i hi => Nat.le_trans hB (hF i hi))
  exact ⟨Blk.cv (hb.set_ 2 _) rfl, ⟨z, own_box (own_keep z1 z1' f1 (by decide)) hb (by decide), z2⟩, ⟨_, own_box o1 hb (by decide), r1⟩, ⟨t_, own_box (own_keep t1 z1' f1 (by decide)) hb (by decide), t2⟩, ⟨v_, own_box (own_keep v1 z1' f1 (by decide)) hb (by decide), v2⟩, ht.set hl hgw (h1.ne b (by decide)), hff.transNew (fr_set w' ⟨g, 2, none⟩ _) (fun i hi => by have hi : i = g := hi; omega), by have := f1.size; have := (fr_set w' ⟨g, 2, none⟩ (.slice A1 (v.nc + 1) d1)).size; omega⟩
theorem CfS.app_t (h : CfS w0 t g B A n cp V k v) (hB : w0.heap.size ≤ B) (htB : t < B) (hgB : g < B) (hgw : w0.heap.size ≤ g) (hl : TpLow A n w0.heap.size) {row xs : List Value} {v' : Value} (z1' : OwnN V (fun i => B ≤ i) TTn 7 (.slice v.At v.nt v.ct) v.nt xs) (z2' : RowsP 7 TP v.nt xs) (hP : TP row) (hl' : row.length = 7)
    (happ : AppendedN V 0 TTn 7 (.slice v.At v.nt v.ct) v.nt xs row 1 v' w') : ∃ A1 c1, v' = .slice A1 (v.nt + 1) c1 ∧ Blk w' g TCf v.arr ∧ CfS w0 t g B A n cp (w'.setCell ⟨g, 3, none⟩ v') k { v with At := A1, nt := v.nt + 1, ct := c1 } := by
  obtain ⟨b, ⟨z, z1, z2⟩, ⟨c, c1, c2⟩, ⟨t_, t1, t2⟩, ⟨v_, v1, v2⟩, h1, h2, h3⟩ := h
  clear t1 t2
  obtain ⟨A1, d1, xs', e1, o1, r1, f1⟩ := own_app (fun i hi => Nat.le_trans h3 hi) z1' z2' hP hl' happ
  subst e1
  have hF : ∀ i, (Value.slice v.At v.nt v.ct).ownBlock = some i → B ≤ i := fun i hi => z1'.2 i hi
  have hb := b.fr f1 (fun e => by have := hF g e; omega)
  refine ⟨A1, d1, rfl, hb, ?_⟩
  have ht := h1.type f1 hl (fun i hi => ⟨fun e => by have := hF i hi; omega, Nat.le_trans hB (hF i hi)⟩)
  have hff := h2.transNew f1 (fun i hi => Nat.le_trans hB (hF i hi))
  exact ⟨Blk.cv (hb.set_ 3 _) rfl, ⟨z, own_box (own_keep z1 z1' f1 (by decide)) hb (by decide), z2⟩, ⟨c, own_box (own_keep c1 z1' f1 (by decide)) hb (by decide), c2⟩, ⟨_, own_box o1 hb (by decide), r1⟩, ⟨v_, own_box (own_keep v1 z1' f1 (by decide)) hb (by decide), v2⟩, ht.set hl hgw (h1.ne b (by decide)), hff.transNew (fr_set w' ⟨g, 3, none⟩ _) (fun i hi => by have hi : i = g := hi; omega), by have := f1.size; have := (fr_set w' ⟨g, 3, none⟩ (.slice A1 (v.nt + 1) d1)).size; omega⟩
theorem CfS.app_v (h : CfS w0 t g B A n cp V k v) (hB : w0.heap.size ≤ B) (htB : t < B) (hgB : g < B) (hgw : w0.heap.size ≤ g) (hl : TpLow A n w0.heap.size) {row xs : List Value} {v' : Value} (z1' : OwnN V (fun i => B ≤ i) TVr 2 (.slice v.Av v.nv v.cv) v.nv xs) (z2' : RowsP 2 VP v.nv xs) (hP : VP row) (hl' : row.length = 2)
    (happ : AppendedN V 0 TVr 2 (.slice v.Av v.nv v.cv) v.nv xs row 1 v' w') : ∃ A1 c1, v' = .slice A1 (v.nv + 1) c1 ∧ Blk w' g TCf v.arr ∧ CfS w0 t g B A n cp (w'.setCell ⟨g, 4, none⟩ v') k { v with Av := A1, nv := v.nv + 1, cv := c1 } := by
  obtain ⟨b, ⟨z, z1, z2⟩, ⟨c, c1, c2⟩, ⟨t_, t1, t2⟩, ⟨v_, v1, v2⟩, h1, h2, h3⟩ := h
  clear v1 v2
  obtain ⟨A1, d1, xs', e1, o1, r1, f1⟩ := own_app (fun i hi => Nat.le_trans h3 hi) z1' z2' hP hl' happ
  subst e1
  have hF : ∀ i, (Value.slice v.Av v.nv v.cv).ownBlock = some i → B ≤ i := fun i hi => z1'.2 i hi
  have hb := b.fr f1 (fun e => by have := hF g e; omega)
  refine ⟨A1, d1, rfl, hb, ?_⟩
  have ht := h1.type f1 hl (fun i hi => ⟨fun e => by have := hF i hi; omega, Nat.le_trans hB (hF i hi)⟩)
  have hff := h2.transNew f1 (fun i hi => Nat.le_trans hB (hF i hi))
  exact ⟨Blk.cv (hb.set_ 4 _) rfl, ⟨z, own_box (own_keep z1 z1' f1 (by decide)) hb (by decide), z2⟩, ⟨c, own_box (own_keep c1 z1' f1 (by decide)) hb (by decide), c2⟩, ⟨t_, own_box (own_keep t1 z1' f1 (by decide)) hb (by decide), t2⟩, ⟨_, own_box o1 hb (by decide), r1⟩, ht.set hl hgw (h1.ne b (by decide)), hff.transNew (fr_set w' ⟨g, 4, none⟩ _) (fun i hi => by have hi : i = g := hi; omega), by have := f1.size; have := (fr_set w' ⟨g, 4, none⟩ (.slice A1 (v.nv + 1) d1)).size; omega⟩
theorem CfS.app_r (h : CfS w0 t g B A n cp V k v) (hB : w0.heap.size ≤ B) (htB : t < B) (hgB : g < B) (hgw : w0.heap.size ≤ g) (hl : TpLow A n w0.heap.size) {F : Nat → Prop} {xs : List Value} {x : Int} {v' : Value} (hF0 : ∀ i, F i → B ≤ i) (hFs : ∀ i, V.heap.size ≤ i → F i) (z1' : OwnN V F TIm 1 (.slice v.Ar v.nr v.cr) v.nr xs)
    (happ : AppendedN V 0 TIm 1 (.slice v.Ar v.nr v.cr) v.nr xs [.int .i64 x] 1 v' w') : ∃ A1 c1 xs', v' = .slice A1 (v.nr + 1) c1 ∧ Blk w' g TCf v.arr ∧ OwnN (w'.setCell ⟨g, 5, none⟩ v') F TIm 1 v' (v.nr + 1) xs' ∧ CfS w0 t g B A n cp (w'.setCell ⟨g, 5, none⟩ v') k { v with Ar := A1, nr := v.nr + 1, cr := c1 } := by
  obtain ⟨b, ⟨z, z1, z2⟩, ⟨c, c1, c2⟩, ⟨t_, t1, t2⟩, ⟨v_, v1, v2⟩, h1, h2, h3⟩ := h
  obtain ⟨o1, -⟩ := z1'.appended happ
  have f1 := app_row z1' happ
  obtain ⟨A1, d1, e1, -⟩ := o1.form
  subst e1
  have hF : ∀ i, (Value.slice v.Ar v.nr v.cr).ownBlock = some i → B ≤ i := fun i hi => hF0 i (z1'.2 i hi)
  have hb := b.fr f1 (fun e => by have := hF g e; omega)
  have ht := h1.type f1 hl (fun i hi => ⟨fun e => by have := hF i hi; omega, Nat.le_trans hB (hF i hi)⟩)
  have hff := h2.transNew f1 (fun i hi => Nat.le_trans hB (hF i hi))
  refine ⟨A1, d1, _, rfl, hb, own_box (o1.mono (fun i hi => by rcases hi with hi | hi; exact hi; exact hFs i (by omega))) hb (by decide), ?_⟩
  exact ⟨Blk.cv (hb.set_ 5 _) rfl, ⟨z, own_box (own_keep z1 z1' f1 (by decide)) hb (by decide), z2⟩, ⟨c, own_box (own_keep c1 z1' f1 (by decide)) hb (by decide), c2⟩, ⟨t_, own_box (own_keep t1 z1' f1 (by decide)) hb (by decide), t2⟩, ⟨v_, own_box (own_keep v1 z1' f1 (by decide)) hb (by decide), v2⟩, ht.set hl hgw (h1.ne b (by decide)), hff.transNew (fr_set w' ⟨g, 5, none⟩ _) (fun i hi => by have hi : i = g := hi; omega), by have := f1.size; have := (fr_set w' ⟨g, 5, none⟩ (.slice A1 (v.nr + 1) d1)).size; omega⟩
theorem CfS.app_o (h : CfS w0 t g B A n cp V k v) (hB : w0.heap.size ≤ B) (htB : t < B) (hgB : g < B) (hgw : w0.heap.size ≤ g) (hl : TpLow A n w0.heap.size) {F : Nat → Prop} {xs : List Value} {x : Int} {v' : Value} (hF0 : ∀ i, F i → B ≤ i) (hFs : ∀ i, V.heap.size ≤ i → F i) (z1' : OwnN V F TIm 1 (.slice v.Ao v.no_ v.co) v.no_ xs)
    (happ : AppendedN V 0 TIm 1 (.slice v.Ao v.no_ v.co) v.no_ xs [.int .i64 x] 1 v' w') : ∃ A1 c1 xs', v' = .slice A1 (v.no_ + 1) c1 ∧ Blk w' g TCf v.arr ∧ OwnN (w'.setCell ⟨g, 6, none⟩ v') F TIm 1 v' (v.no_ + 1) xs' ∧ CfS w0 t g B A n cp (w'.setCell ⟨g, 6, none⟩ v') k { v with Ao := A1, no_ := v.no_ + 1, co := c1 } := by
  obtain ⟨b, ⟨z, z1, z2⟩, ⟨c, c1, c2⟩, ⟨t_, t1, t2⟩, ⟨v_, v1, v2⟩, h1, h2, h3⟩ := h
  obtain ⟨o1, -⟩ := z1'.appended happ
  have f1 := app_row z1' happ
  obtain ⟨A1, d1, e1, -⟩ := o1.form
  subst e1
  have hF : ∀ i, (Value.slice v.Ao v.no_ v.co).ownBlock = some i → B ≤ i := fun i hi => hF0 i (z1'.2 i hi)
  have hb := b.fr f1 (fun e => by have := hF g e; omega)
  have ht := h1.type f1 hl (fun i hi => ⟨fun e => by have := hF i hi; omega, Nat.le_trans hB (hF i hi)⟩)
  have hff := h2.transNew f1 (fun i hi => Nat.le_trans hB (hF i hi))
  refine ⟨A1, d1, _, rfl, hb, own_box (o1.mono (fun i hi => by rcases hi with hi | hi; exact hi; exact hFs i (by omega))) hb (by decide), ?_⟩
  exact ⟨Blk.cv (hb.set_ 6 _) rfl, ⟨z, own_box (own_keep z1 z1' f1 (by decide)) hb (by decide), z2⟩, ⟨c, own_box (own_keep c1 z1' f1 (by decide)) hb (by decide), c2⟩, ⟨t_, own_box (own_keep t1 z1' f1 (by decide)) hb (by decide), t2⟩, ⟨v_, own_box (own_keep v1 z1' f1 (by decide)) hb (by decide), v2⟩, ht.set hl hgw (h1.ne b (by decide)), hff.transNew (fr_set w' ⟨g, 6, none⟩ _) (fun i hi => by have hi : i = g := hi; omega), by have := f1.size; have := (fr_set w' ⟨g, 6, none⟩ (.slice A1 (v.no_ + 1) d1)).size; omega⟩
theorem CfS.otherT {W' : World} {q : Nat} {cs : Array Value} (h : CfS w0 t g B A n cp wr k v) (hf : Fr (fun i => i = q) wr W') (hz : Blk wr q TTn cs) (hrow : ∀ b, (Value.slice v.At v.nt v.ct).ownBlock = some b → b ≠ q) (hl : TpLow A n w0.heap.size) (hq : w0.heap.size ≤ q) : CfS w0 t g B A n cp W' k v := by
  obtain ⟨b, ⟨z, z1, z2⟩, ⟨c, c1, c2⟩, ⟨s, s1, s2⟩, ⟨u, u1, u2⟩, h1, h2, h3⟩ := h
  have hk : ∀ {F : Nat → Prop} {e : TypeId} {s m : Nat} {u : Value} {xs : List Value}, OwnN wr F e s u m xs → e ≠ TTn → OwnN W' F e s u m xs := fun h hne => h.fr' hf fun b hb e => (h.ne_blk hz hne) b hb e
  exact ⟨b.fr hf (fun e => blk_type b hz (by decide) e), ⟨z, hk z1 (by decide), z2⟩, ⟨c, hk c1 (by decide), c2⟩, ⟨s, s1.fr' hf hrow, s2⟩, ⟨u, hk u1 (by decide), u2⟩, h1.type hf hl (fun i hi => by have hi : i = q := hi; subst hi; exact ⟨h1.ne hz (by decide), hq⟩), h2.transNew hf (fun i hi => by have hi : i = q := hi; omega), Nat.le_trans h3 hf.size⟩
end
theorem zn_info : (Tryd.prog.info? TZn).map (fun i => (i.zero.map fun z => z.cells.size, i.size, i.bytes)) = some (some 1, 1, 8) := by kernel_rfl
theorem cl_info : (Tryd.prog.info? TCl).map (fun i => (i.zero.map fun z => z.cells.size, i.size, i.bytes)) = some (some 2, 2, 16) := by kernel_rfl
theorem tn_info : (Tryd.prog.info? TTn).map (fun i => (i.zero.map fun z => z.cells.size, i.size, i.bytes)) = some (some 7, 7, 56) := by kernel_rfl
theorem vr_info : (Tryd.prog.info? TVr).map (fun i => (i.zero.map fun z => z.cells.size, i.size, i.bytes)) = some (some 2, 2, 16) := by kernel_rfl
theorem im_info : (Tryd.prog.info? TIm).map (fun i => (i.zero.map fun z => z.cells.size, i.size, i.bytes)) = some (some 1, 1, 8) := by kernel_rfl
/-- A zero tenant's box. -/
def Z9 (w1 : World) (t : Nat) (v : Cv) (V : World) (q : Nat) : Prop := Blk V q TTn #[.int .i64 0, .int .i64 0, .int .i64 0, .int .i64 0, .int .i64 0, .int .i64 0, .bool false] ∧ q ≠ t ∧ w1.heap.size ≤ q ∧ ∀ b, (Value.slice v.At v.nt v.ct).ownBlock = some b → b ≠ q
theorem Z9.step {w1 V V' : World} {t : Nat} {v : Cv} {q : Nat} (h : Z9 w1 t v V q) (hF : Fr (fun i => i = t) V V') : Z9 w1 t v V' q := ⟨h.1.fr hF h.2.1, h.2⟩
theorem Z9.new {w1 W V' : World} {t g B : Nat} {A : Option Addr} {n cp k : Nat} {v : Cv} (h : CfS w1 t g B A n cp W k v) (hF : Fr (fun i => i = t) (W.alloc (.cells #[.int .i64 0, .int .i64 0, .int .i64 0, .int .i64 0, .int .i64 0, .int .i64 0, .bool false] TTn)) V') : Z9 w1 t v V' W.heap.size := by
  have hlt := h.tp.blk.lt
  refine ⟨(Blk.new W TTn #[.int .i64 0, .int .i64 0, .int .i64 0, .int .i64 0, .int .i64 0, .int .i64 0, .bool false]).fr hF (fun e => by have e : W.heap.size = t := e; omega), by omega, h.fr.size, fun b hb e => ?_⟩
  obtain ⟨xs, h1, -⟩ := h.rt
  have := h1.lt b hb
  omega
theorem Z9.newd {w1 W V' : World} {t g B : Nat} {A : Option Addr} {n cp k : Nat} {v : Cv} (h : CfS w1 t g B A n cp W k v) (hF : Fr (fun i => i = t) (W.alloc (.cells #[.int .i64 0, .int .i64 0, .int .i64 0, .int .i64 0, .int .i64 0, .int .i64 0, .bool false] TTn)).drew V') : Z9 w1 t v V' W.heap.size := Z9.new h ⟨hF.os, hF.tape, hF.output, hF.size, hF.block⟩
theorem CfS.newv {w0 V : World} {t g B : Nat} {A : Option Addr} {n cp k : Nat} {v : Cv} (h : CfS w0 t g B A n cp V k v) (hgw : w0.heap.size ≤ g) (hl : TpLow A n w0.heap.size) (a b : Int) : CfS w0 t g B A n cp ((V.setCell ⟨g, 4, none⟩ (.slice (some ⟨V.heap.size, 0, none⟩) 1 1)).alloc (.cells #[.int .i64 a, .int .i64 b] TVr)) k { v with Av := some ⟨V.heap.size, 0, none⟩, nv := 1, cv := 1 } := by
  rw [← World.setCell_alloc_past _ _ _ _ h.box.lt]
  have h' := h.frNo (fr_alloc V (.cells #[.int .i64 a, .int .i64 b] TVr))
  obtain ⟨b0, ⟨z, z1, z2⟩, ⟨c, c1, c2⟩, ⟨s, s1, s2⟩, -, h1, h2, h3⟩ := h'
  have hsz := h.sz
  have hrow : OwnN (V.alloc (.cells #[.int .i64 a, .int .i64 b] TVr)) (fun i => B ≤ i) TVr 2 (.slice (some ⟨V.heap.size, 0, none⟩) 1 1) 1 [.int .i64 a, .int .i64 b] :=
    ⟨⟨rfl, .inr ⟨V.heap.size, 1, #[.int .i64 a, .int .i64 b], rfl, Nat.zero_le _, heap_alloc_new V _, Nat.le_refl _, by unfold maxLen; omega, rfl, rfl⟩⟩, fun g hg => by simp [Value.ownBlock] at hg; omega⟩
  have hp : RowsP 2 VP 1 [.int .i64 a, .int .i64 b] := (RowsP.nil 2 VP).snoc ⟨a, b, rfl⟩ rfl
  exact ⟨Blk.cv (b0.set_ 4 _) rfl, ⟨z, own_box z1 b0 (by decide), z2⟩, ⟨c, own_box c1 b0 (by decide), c2⟩, ⟨s, own_box s1 b0 (by decide), s2⟩, ⟨_, own_box hrow b0 (by decide), hp⟩, h1.set hl hgw (h1.ne b0 (by decide)), h2.transNew (fr_set _ ⟨g, 4, none⟩ _) (fun i hi => by have hi : i = g := hi; omega), Nat.le_trans h3 (fr_set _ ⟨g, 4, none⟩ _).size⟩
theorem tn_cells {V : World} {q : Nat} {a b c d e f g : Value} (h : Blk V q TTn #[a, b, c, d, e, f, g]) : V.cell? ⟨q, 0, none⟩ = some a ∧ V.cell? ⟨q, 1, none⟩ = some b ∧ V.cell? ⟨q, 2, none⟩ = some c ∧ V.cell? ⟨q, 3, none⟩ = some d ∧ V.cell? ⟨q, 4, none⟩ = some e ∧ V.cell? ⟨q, 5, none⟩ = some f ∧ V.cell? ⟨q, 6, none⟩ = some g :=
  ⟨h.cell 0, h.cell 1, h.cell 2, h.cell 3, h.cell 4, h.cell 5, h.cell 6⟩
theorem CfS.rg_ {w0 V : World} {t g B : Nat} {A : Option Addr} {n cp k : Nat} {v : Cv} (h : CfS w0 t g B A n cp V k v) : V.cell? ⟨g, 0, none⟩ = some (.int .i64 (v.rg : Int)) := h.box.cell 0
theorem z9_cells {w1 V : World} {t : Nat} {v : Cv} {q : Nat} (h : Z9 w1 t v V q) : (V.cell? ⟨q, 0, none⟩ = some (.int .i64 0) ∧ V.cell? ⟨q, 1, none⟩ = some (.int .i64 0) ∧ V.cell? ⟨q, 2, none⟩ = some (.int .i64 0) ∧ V.cell? ⟨q, 3, none⟩ = some (.int .i64 0) ∧ V.cell? ⟨q, 4, none⟩ = some (.int .i64 0) ∧ V.cell? ⟨q, 5, none⟩ = some (.int .i64 0) ∧ V.cell? ⟨q, 6, none⟩ = some (.bool false)) ∧ ∀ i, V.frozen? ⟨q, i, none⟩ = false :=
  ⟨⟨h.1.cell 0, h.1.cell 1, h.1.cell 2, h.1.cell 3, h.1.cell 4, h.1.cell 5, h.1.cell 6⟩, h.1.frozen⟩
theorem tn_fill {W : World} {q : Nat} (xa xb xc xd xe xf : Int) (xg : Bool) (h : Blk W q TTn #[.int .i64 0, .int .i64 0, .int .i64 0, .int .i64 0, .int .i64 0, .int .i64 0, .bool false]) : Blk (World.setCell (World.setCell (World.setCell (World.setCell (World.setCell (World.setCell (World.setCell W ⟨q, 0, none⟩ (.int .i64 xa)) ⟨q, 1, none⟩ (.int .i64 xb)) ⟨q, 2, none⟩ (.int .i64 xc)) ⟨q, 3, none⟩ (.int .i64 xd)) ⟨q, 4, none⟩ (.int .i64 xe)) ⟨q, 5, none⟩ (.int .i64 xf)) ⟨q, 6, none⟩ (.bool xg)) q TTn #[.int .i64 xa, .int .i64 xb, .int .i64 xc, .int .i64 xd, .int .i64 xe, .int .i64 xf, .bool xg] ∧ Fr (fun i => i = q) W (World.setCell (World.setCell (World.setCell (World.setCell (World.setCell (World.setCell (World.setCell W ⟨q, 0, none⟩ (.int .i64 xa)) ⟨q, 1, none⟩ (.int .i64 xb)) ⟨q, 2, none⟩ (.int .i64 xc)) ⟨q, 3, none⟩ (.int .i64 xd)) ⟨q, 4, none⟩ (.int .i64 xe)) ⟨q, 5, none⟩ (.int .i64 xf)) ⟨q, 6, none⟩ (.bool xg)) := ⟨Blk.cv (Blk.set_ (Blk.set_ (Blk.set_ (Blk.set_ (Blk.set_ (Blk.set_ (Blk.set_ h 0 _) 1 _) 2 _) 3 _) 4 _) 5 _) 6 _) (by simp only [List.setIfInBounds_toArray, List.set_cons_zero, List.set_cons_succ]), (Fr.setCell (Fr.setCell (Fr.setCell (Fr.setCell (Fr.setCell (Fr.setCell (Fr.setCell (Fr.refl (fun i => i = q) W) (p := ⟨q, 0, none⟩) (.inl rfl) _) (p := ⟨q, 1, none⟩) (.inl rfl) _) (p := ⟨q, 2, none⟩) (.inl rfl) _) (p := ⟨q, 3, none⟩) (.inl rfl) _) (p := ⟨q, 4, none⟩) (.inl rfl) _) (p := ⟨q, 5, none⟩) (.inl rfl) _) (p := ⟨q, 6, none⟩) (.inl rfl) _)⟩
/-- The tenant's box, filled. -/
def TnP (w1 : World) (t g B : Nat) (A : Option Addr) (n cp k8 d : Nat) (v : Cv) (p : Value) (wx : World) : Prop := ∃ (g9 : Nat) (xa xb xc xd xe xf : Int) (xg : Bool) (k' : Nat), p = .pointer (some ⟨g9, 0, none⟩) ∧ Blk wx g9 TTn #[.int .i64 xa, .int .i64 xb, .int .i64 xc, .int .i64 xd, .int .i64 xe, .int .i64 xf, .bool xg] ∧ g9 ≠ t ∧ w1.heap.size ≤ g9 ∧ (∀ b, (Value.slice v.At v.nt v.ct).ownBlock = some b → b ≠ g9) ∧ k8 ≤ k' ∧ k' ≤ k8 + d ∧ CfS w1 t g B A n cp wx k' v
theorem TnP.a {w1 W : World} {t g B : Nat} {A : Option Addr} {n cp k8 d k' : Nat} {v : Cv} (h : CfS w1 t g B A n cp W k' v) (hk : k8 ≤ k' ∧ k' ≤ k8 + d) (xa xb xc xd xe xf : Int) (xg : Bool) : TnP w1 t g B A n cp k8 d v (.pointer (some ⟨W.heap.size, 0, none⟩)) (W.alloc (.cells #[.int .i64 xa, .int .i64 xb, .int .i64 xc, .int .i64 xd, .int .i64 xe, .int .i64 xf, .bool xg] TTn)) := by
  have hlt := h.tp.blk.lt
  refine ⟨_, xa, xb, xc, xd, xe, xf, xg, k', rfl, Blk.new _ _ _, by omega, h.fr.size, fun b hb e => ?_, hk.1, hk.2, h.frNo (fr_alloc _ _)⟩
  obtain ⟨xs, h1, -⟩ := h.rt
  have := h1.lt b hb
  omega
theorem TnP.b {w1 W : World} {t g B q : Nat} {A : Option Addr} {n cp k8 d k' : Nat} {v : Cv} (h : CfS w1 t g B A n cp W k' v) (hk : k8 ≤ k' ∧ k' ≤ k8 + d) (hz : Z9 w1 t v W q) (hl : TpLow A n w1.heap.size) (xa xb xc xd xe xf : Int) (xg : Bool) : TnP w1 t g B A n cp k8 d v (.pointer (some ⟨q, 0, none⟩)) (World.setCell (World.setCell (World.setCell (World.setCell (World.setCell (World.setCell (World.setCell W ⟨q, 0, none⟩ (.int .i64 xa)) ⟨q, 1, none⟩ (.int .i64 xb)) ⟨q, 2, none⟩ (.int .i64 xc)) ⟨q, 3, none⟩ (.int .i64 xd)) ⟨q, 4, none⟩ (.int .i64 xe)) ⟨q, 5, none⟩ (.int .i64 xf)) ⟨q, 6, none⟩ (.bool xg)) :=
  ⟨_, xa, xb, xc, xd, xe, xf, xg, k', rfl, (tn_fill xa xb xc xd xe xf xg hz.1).1, hz.2.1, hz.2.2.1, hz.2.2.2, hk.1, hk.2, h.otherT (tn_fill xa xb xc xd xe xf xg hz.1).2 hz.1 hz.2.2.2 hl hz.2.2.1⟩
theorem RowsP.at_ {size m : Nat} {P : List Value → Prop} {xs : List Value} (h : RowsP size P m xs) {w : World} {F : Nat → Prop} {e : TypeId} {A : Option Addr} {c : Nat} (ho : OwnN w F e size (.slice A m c) m xs) (hm : 1 ≤ m) : ∃ b, A = some ⟨b, 0, none⟩ ∧ b < w.heap.size ∧ F b ∧ ∀ i, i < m → ∃ row, P row ∧ row.length = size ∧ ∀ j, j < size → w.cell? ⟨b, i * size + j, none⟩ = row[j]? := by
  rcases ownN_blk ho with ⟨-, h0⟩ | ⟨b, cur, k1, k2, k3, k4⟩
  · omega
  · refine ⟨b, k1, k3.lt, k2, fun i hi => ?_⟩
    obtain ⟨row, h1, h2, h3⟩ := h.2 i hi
    have hmm : (i + 1) * size ≤ m * size := Nat.mul_le_mul_right _ hi
    rw [Nat.succ_mul] at hmm
    exact ⟨row, h1, h2, fun j hj => (k3.cell _).trans ((k4 _ (by omega)).trans (h3 j hj))⟩
/-- A configuration that is complete. -/
theorem done_rows {wr : World} {F1 F2 F3 F4 : Nat → Prop} {v : Cv} (hz : ∃ xs, OwnN wr F1 TZn 1 (.slice v.Az v.nz v.cz) v.nz xs ∧ RowsP 1 (ZP v.rg) v.nz xs) (hc : ∃ xs, OwnN wr F2 TCl 2 (.slice v.Ac v.nc v.cc) v.nc xs ∧ RowsP 2 (CP v.nz) v.nc xs) (ht : ∃ xs, OwnN wr F3 TTn 7 (.slice v.At v.nt v.ct) v.nt xs ∧ RowsP 7 TP v.nt xs) (hv : ∃ xs, OwnN wr F4 TVr 2 (.slice v.Av v.nv v.cv) v.nv xs ∧ RowsP 2 VP v.nv xs)
    (hrg : 1 ≤ v.rg ∧ v.rg ≤ 3) (hnz : 1 ≤ v.nz ∧ v.nz ≤ 16) (hnc : 1 ≤ v.nc ∧ v.nc ≤ 16) (hnt : v.nt ≤ 16) (hnv : 1 ≤ v.nv ∧ v.nv ≤ 16) (hle : 2 ≤ v.le ∧ v.le ≤ 12) (hbk : v.bk ≤ 8) :
    ∃ bz bc bv, v.Az = some ⟨bz, 0, none⟩ ∧ v.Ac = some ⟨bc, 0, none⟩ ∧ v.Av = some ⟨bv, 0, none⟩ ∧ CfOk wr ⟨v.rg, v.nz, v.nc, v.nt, v.nv, v.le, v.bk, bz, bc, bv, v.cz, v.cc, v.ct, v.cv, v.At, v.Ar, v.nr, v.cr, v.Ao, v.no_, v.co, v.bl⟩ := by
  obtain ⟨z, z1, z2⟩ := hz
  obtain ⟨c, c1, c2⟩ := hc
  obtain ⟨t_, t1, t2⟩ := ht
  obtain ⟨v_, v1, v2⟩ := hv
  obtain ⟨rg, le, bk, bl, Az, nz, cz, Ac, nc, cc, At, nt, ct, Av, nv, cv, Ar, nr, cr, Ao, no_, co⟩ := v
  simp only at *
  obtain ⟨bz, rfl, lz, -, hz⟩ := z2.at_ z1 hnz.1
  obtain ⟨bc, rfl, lc, -, hc⟩ := c2.at_ c1 hnc.1
  obtain ⟨bv, rfl, lv, -, hv⟩ := v2.at_ v1 hnv.1
  refine ⟨bz, bc, bv, rfl, rfl, rfl, ?_⟩
  refine ⟨hrg.1, hrg.2, hnz.1, hnz.2, hnc.1, hnc.2, hnt, hnv.1, hnv.2, hle.1, hle.2, hbk, lz, lc, lv, fun i hi => ?_, fun i hi => ?_, fun i hi => ?_, fun i hi => ?_⟩
  · obtain ⟨row, ⟨r, hr, rfl⟩, -, h0⟩ := hz i hi
    have := h0 0 (by decide)
    exact ⟨r, hr, by simpa using this⟩
  · obtain ⟨row, ⟨z, a, hr, rfl⟩, -, h0⟩ := hc i hi
    exact ⟨z, a, hr, by simpa using h0 0 (by decide), by simpa using h0 1 (by decide)⟩
  · obtain ⟨bt, rfl, lt_, -, ht⟩ := t2.at_ t1 (by simp only at hi; omega)
    obtain ⟨row, ⟨a, b, p, l, d, g, n, rfl⟩, -, h0⟩ := ht i hi
    exact ⟨bt, a, b, p, l, d, g, n, rfl, lt_, by simpa using h0 0 (by decide), by simpa using h0 1 (by decide), by simpa using h0 2 (by decide), by simpa using h0 3 (by decide), by simpa using h0 4 (by decide), by simpa using h0 5 (by decide), by simpa using h0 6 (by decide)⟩
  · obtain ⟨row, ⟨a, b, rfl⟩, -, h0⟩ := hv i hi
    exact ⟨a, b, by simpa using h0 0 (by decide), by simpa using h0 1 (by decide)⟩
/-- .. and stays so where older blocks are turned. -/
theorem CfS.done {w0 wr : World} {t g B : Nat} {A : Option Addr} {n cp k : Nat} {v : Cv} (h : CfS w0 t g B A n cp wr k v) (hrg : 1 ≤ v.rg ∧ v.rg ≤ 3) (hnz : 1 ≤ v.nz ∧ v.nz ≤ 16) (hnc : 1 ≤ v.nc ∧ v.nc ≤ 16) (hnt : v.nt ≤ 16) (hnv : 1 ≤ v.nv ∧ v.nv ≤ 16) (hle : 2 ≤ v.le ∧ v.le ≤ 12) (hbk : v.bk ≤ 8) :
    ∃ c : Cf, v.arr = c.arr ∧ ∀ (F : Nat → Prop) V, Fr F wr V → (∀ i, F i → i < B) → CfOk V c := by
  obtain ⟨b, ⟨z, z1, z2⟩, ⟨c, c1, c2⟩, ⟨t_, t1, t2⟩, ⟨v_, v1, v2⟩, h1, h2, h3⟩ := h
  obtain ⟨bz, bc, bv, e1, e2, e3, -⟩ := done_rows ⟨z, z1, z2⟩ ⟨c, c1, c2⟩ ⟨t_, t1, t2⟩ ⟨v_, v1, v2⟩ hrg hnz hnc hnt hnv hle hbk
  refine ⟨⟨v.rg, v.nz, v.nc, v.nt, v.nv, v.le, v.bk, bz, bc, bv, v.cz, v.cc, v.ct, v.cv, v.At, v.Ar, v.nr, v.cr, v.Ao, v.no_, v.co, v.bl⟩, by simp only [Cv.arr, Cf.arr, e1, e2, e3], fun F V hF hFB => ?_⟩
  have hk : ∀ {e : TypeId} {s m : Nat} {u : Value} {xs : List Value}, OwnN wr (fun i => B ≤ i) e s u m xs → OwnN V (fun i => B ≤ i) e s u m xs := fun h => h.fr' hF fun b hb hh => by have h1 := hFB b hh; have h2 : B ≤ b := h.2 b hb; omega
  obtain ⟨bz', bc', bv', e1', e2', e3', hok⟩ := done_rows ⟨z, hk z1, z2⟩ ⟨c, hk c1, c2⟩ ⟨t_, hk t1, t2⟩ ⟨v_, hk v1, v2⟩ hrg hnz hnc hnt hnv hle hbk
  rw [e1] at e1'
  rw [e2] at e2'
  rw [e3] at e3'
  injection e1' with e1'
  injection e1' with e1'
  injection e2' with e2'
  injection e2' with e2'
  injection e3' with e3'
  injection e3' with e3'
  subst e1' e2' e3'
  exact hok
end Go.Proofs.YtanhbebikcoliaaDoor
