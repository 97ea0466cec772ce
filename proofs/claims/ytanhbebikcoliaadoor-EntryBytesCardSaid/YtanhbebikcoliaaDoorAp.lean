/-
  What Apply needs: the fields of valid entries; its answers.
-/
import Derived.Test.YtanhbebikcoliaaDoorG8
import Derived.Test.YtanhbebikcoliaaDoorStJ
import Derived.Test.YtanhbebikcoliaaDoorStK
import Derived.Test.YtanhbebikcoliaaDoorStL
import Derived.Test.YtanhbebikcoliaaDoorStM
import Derived.Test.YtanhbebikcoliaaDoorStN
import Derived.Test.YtanhbebikcoliaaDoorStO
import Derived.Test.YtanhbebikcoliaaDoorStP
import Derived.Test.YtanhbebikcoliaaDoorStQ
import Derived.Test.YtanhbebikcoliaaDoorStR
import Derived.Test.YtanhbebikcoliaaDoorStS
import Derived.Test.YtanhbebikcoliaaDoorG10
import Derived.Test.YtanhbebikcoliaaDoorG11
namespace Go.Proofs.YtanhbebikcoliaaDoor
open Go.ChangeShapes Go.WideShapes Go.ChangeAt Go.RowKit
set_option linter.unusedVariables false
/-- What the fields of a valid entry are. -/
structure Fits (e : En) (nt nc nr nv : Int) : Prop where
  kind : 1 ≤ e.kind ∧ e.kind ≤ 16
  ten : e.kind ≤ 8 → 0 ≤ e.tenant ∧ e.tenant < nt
  cell : e.kind = 1 ∨ e.kind = 2 ∨ e.kind = 5 ∨ e.kind = 6 ∨ e.kind = 9 ∨ e.kind = 10 ∨ e.kind = 11 → 0 ≤ e.cell ∧ e.cell < nc
  cell4 : e.kind = 4 → -1 ≤ e.cell ∧ e.cell < nc
  other : e.kind = 1 → -1 ≤ e.other ∧ e.other < nc
  ver : e.kind = 10 ∨ e.kind = 11 ∨ e.kind = 12 → 0 ≤ e.n ∧ e.n < nv
  win : e.kind = 2 → okI e.epoch ∧ okI e.until_
  reg : e.kind = 13 → 0 ≤ e.other ∧ e.other < nr
theorem kinds16 {k : Int} (h : 1 ≤ k ∧ k ≤ 16) : k = 1 ∨ k = 2 ∨ k = 3 ∨ k = 4 ∨ k = 5 ∨ k = 6 ∨ k = 7 ∨ k = 8 ∨ k = 9 ∨ k = 10 ∨ k = 11 ∨ k = 12 ∨ k = 13 ∨ k = 14 ∨ k = 15 ∨ k = 16 := by omega
theorem fits_of {e : En} {nt nc nr nv : Int} (h : fitsB e nt nc nr nv = true) : Fits e nt nc nr nv := by
  obtain ⟨kd, et, tn, cl, ot, ep, fm, un, n⟩ := e
  simp only [fitsB, inB, Sp.has, Bool.and_eq_true, decide_eq_true_eq] at h
  obtain ⟨⟨⟨⟨⟨⟨⟨⟨⟨h1, h2⟩, h3⟩, h4⟩, h5⟩, h6⟩, h7⟩, h8⟩, h9⟩, h10⟩ := h
  rcases kinds16 h1 with rfl | rfl | rfl | rfl | rfl | rfl | rfl | rfl | rfl | rfl | rfl | rfl | rfl | rfl | rfl | rfl
  all_goals
    simp [formN] at h4 h5 h6 h7 h8 h9 h10
    refine ⟨h1, ?_, ?_, ?_, ?_, ?_, ?_, ?_⟩ <;> intro hk <;> simp only at hk ⊢ <;> first | omega | (unfold okI; omega)
/-- What Apply answers. -/
def ApTo (w : World) (c : Cf) (e : Ending) (w' : World) : Prop := ∃ (s : St) (k : Int), e = .returned (.tuple #[.agg s.arr, .int .i64 k]) ∧ (k = 0 → StOk w' (fun i => w.heap.size ≤ i ∧ i < w'.heap.size) c s) ∧ Fr No w w'
theorem ApTo.no {w w' : World} {c : Cf} {k : Int} (hk : k ≠ 0) (h : Fr No w w') {s : St} {e : Ending} (he : e = .returned (.tuple #[.agg s.arr, .int .i64 k])) : ApTo w c e w' := ⟨s, k, he, fun h => (hk h).elim, h⟩
theorem ApTo.fill {w W : World} {c : Cf} {s : St} {q B : Nat} {k : Int} {e : Ending} (hok : k = 0 → StOk W (fun i => B ≤ i) c s) (hf : Fr No w W) (hq : w.heap.size ≤ q) (hB : q < B) (he : e = .returned (.tuple #[.agg s.arr, .int .i64 k])) : ApTo w c e (World.setCell (World.setCell (World.setCell (World.setCell (World.setCell (World.setCell (World.setCell (World.setCell W ⟨q, 0, none⟩ (.int .i64 s.tk)) ⟨q, 1, none⟩ (.int .i64 s.cn)) ⟨q, 2, none⟩ (.slice s.Bt s.mt s.dt)) ⟨q, 3, none⟩ (.slice s.Bs s.ms s.ds)) ⟨q, 4, none⟩ (.int .i64 s.pr)) ⟨q, 5, none⟩ (.int .i64 s.ev)) ⟨q, 6, none⟩ (.int .i64 s.lo)) ⟨q, 7, none⟩ (.int .i64 s.hi)) := by
  have hff : Fr (fun i => i = q) W (World.setCell (World.setCell (World.setCell (World.setCell (World.setCell (World.setCell (World.setCell (World.setCell W ⟨q, 0, none⟩ (.int .i64 s.tk)) ⟨q, 1, none⟩ (.int .i64 s.cn)) ⟨q, 2, none⟩ (.slice s.Bt s.mt s.dt)) ⟨q, 3, none⟩ (.slice s.Bs s.ms s.ds)) ⟨q, 4, none⟩ (.int .i64 s.pr)) ⟨q, 5, none⟩ (.int .i64 s.ev)) ⟨q, 6, none⟩ (.int .i64 s.lo)) ⟨q, 7, none⟩ (.int .i64 s.hi)) := (Fr.setCell (Fr.setCell (Fr.setCell (Fr.setCell (Fr.setCell (Fr.setCell (Fr.setCell (Fr.setCell (Fr.refl (fun i => i = q) W) (p := ⟨q, 0, none⟩) (.inl rfl) _) (p := ⟨q, 1, none⟩) (.inl rfl) _) (p := ⟨q, 2, none⟩) (.inl rfl) _) (p := ⟨q, 3, none⟩) (.inl rfl) _) (p := ⟨q, 4, none⟩) (.inl rfl) _) (p := ⟨q, 5, none⟩) (.inl rfl) _) (p := ⟨q, 6, none⟩) (.inl rfl) _) (p := ⟨q, 7, none⟩) (.inl rfl) _)
  refine ⟨s, k, he, fun hk => ?_, st_fill_fr s hf hq⟩
  have h1 : StOk _ (fun i => B ≤ i) c s := (hok hk).fr hff (fun i hi e => by have e : i = q := e; have hi : B ≤ i := hi; omega)
  exact (h1.mono (F := fun i => w.heap.size ≤ i) (fun i hi => by omega)).bound
theorem ApTo.drew {w w' : World} {c : Cf} {e : Ending} (h : ApTo w c e w') : ApTo w c e w'.drew := let ⟨s, k, he, ho, hf⟩ := h; ⟨s, k, he, fun hk => (ho hk).frNo (Fr.refl No _).drew, hf.drew⟩
/-- The state under way: its box, the answer's box, its rows. -/
structure ApS (w4 : World) (g2 g4 : Nat) (c : Cf) (wx : World) (s : St) : Prop where
  sb : Blk wx g2 TSt s.arr
  zb : Blk wx g4 TSt stZero.arr
  ok : StOk wx (fun i => w4.heap.size ≤ i ∧ i < wx.heap.size) c s
  fr : Fr (fun i => i = g2) w4 wx
theorem ApS.fill {w4 V : World} {g2 g4 : Nat} {c : Cf} {s s0 : St} {H : Nat → Prop} (hs : Blk V g2 TSt s0.arr) (hz : Blk V g4 TSt stZero.arr) (hok : StOk V (fun i => w4.heap.size ≤ i ∧ H i) c s) (hf : Fr No w4 V) (h2 : g2 < w4.heap.size) (hne : g4 ≠ g2) :
    ApS w4 g2 g4 c (World.setCell (World.setCell (World.setCell (World.setCell (World.setCell (World.setCell (World.setCell (World.setCell V ⟨g2, 0, none⟩ (.int .i64 s.tk)) ⟨g2, 1, none⟩ (.int .i64 s.cn)) ⟨g2, 2, none⟩ (.slice s.Bt s.mt s.dt)) ⟨g2, 3, none⟩ (.slice s.Bs s.ms s.ds)) ⟨g2, 4, none⟩ (.int .i64 s.pr)) ⟨g2, 5, none⟩ (.int .i64 s.ev)) ⟨g2, 6, none⟩ (.int .i64 s.lo)) ⟨g2, 7, none⟩ (.int .i64 s.hi)) s := by
  have hff : Fr (fun i => i = g2) V (World.setCell (World.setCell (World.setCell (World.setCell (World.setCell (World.setCell (World.setCell (World.setCell V ⟨g2, 0, none⟩ (.int .i64 s.tk)) ⟨g2, 1, none⟩ (.int .i64 s.cn)) ⟨g2, 2, none⟩ (.slice s.Bt s.mt s.dt)) ⟨g2, 3, none⟩ (.slice s.Bs s.ms s.ds)) ⟨g2, 4, none⟩ (.int .i64 s.pr)) ⟨g2, 5, none⟩ (.int .i64 s.ev)) ⟨g2, 6, none⟩ (.int .i64 s.lo)) ⟨g2, 7, none⟩ (.int .i64 s.hi)) := (Fr.setCell (Fr.setCell (Fr.setCell (Fr.setCell (Fr.setCell (Fr.setCell (Fr.setCell (Fr.setCell (Fr.refl (fun i => i = g2) V) (p := ⟨g2, 0, none⟩) (.inl rfl) _) (p := ⟨g2, 1, none⟩) (.inl rfl) _) (p := ⟨g2, 2, none⟩) (.inl rfl) _) (p := ⟨g2, 3, none⟩) (.inl rfl) _) (p := ⟨g2, 4, none⟩) (.inl rfl) _) (p := ⟨g2, 5, none⟩) (.inl rfl) _) (p := ⟨g2, 6, none⟩) (.inl rfl) _) (p := ⟨g2, 7, none⟩) (.inl rfl) _)
  refine ⟨st_fill s hs, hz.fr hff hne, ?_, (hf.mono (fun _ h => h.elim)).trans hff fun i hi => .inl hi⟩
  have h1 := hok.fr hff (fun i hi e => by have e : i = g2 := e; have := hi.1; omega)
  exact (h1.mono (F := fun i => w4.heap.size ≤ i) (fun i hi => hi.1)).bound
theorem ApS.nums {w4 wx : World} {g2 g4 : Nat} {c : Cf} {Bt Bs : Option Addr} {mt dt ms ds : Nat} {tk cn pr ev lo hi tk' cn' pr' ev' lo' hi' : Int} {k : Nat} {u : Value} (h : ApS w4 g2 g4 c wx ⟨tk, cn, Bt, mt, dt, Bs, ms, ds, pr, ev, lo, hi⟩) (h2 : g2 < w4.heap.size) (hne : g4 ≠ g2)
    (hc : (St.arr ⟨tk, cn, Bt, mt, dt, Bs, ms, ds, pr, ev, lo, hi⟩).setIfInBounds k u = St.arr ⟨tk', cn', Bt, mt, dt, Bs, ms, ds, pr', ev', lo', hi'⟩) : ApS w4 g2 g4 c (wx.setCell ⟨g2, k, none⟩ u) ⟨tk', cn', Bt, mt, dt, Bs, ms, ds, pr', ev', lo', hi'⟩ := by
  have hff := fr_set wx ⟨g2, k, none⟩ u
  refine ⟨Blk.cv (h.sb.set_ k u) hc, h.zb.fr hff hne, ?_, h.fr.trans hff fun i hi => .inl hi⟩
  have h1 := (StOk.renum (tk' := tk') (cn' := cn') (pr' := pr') (ev' := ev') (lo' := lo') (hi' := hi') h.ok).fr hff (fun i hi e => by have e : i = g2 := e; have := hi.1; omega)
  exact (h1.mono (F := fun i => w4.heap.size ≤ i) (fun i hi => hi.1)).bound
end Go.Proofs.YtanhbebikcoliaaDoor
