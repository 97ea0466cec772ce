/-
  Several texts in one: RepU.
-/
import Derived.Test.YtokblidfekbeeaaZ23
import Derived.Test.YtokblidfekbeeaaZ03
/- The program's replica: an append message that fits is taken. -/
namespace Go.Proofs.Ytokblidfekbeeaa
open Go.ChangeShapes Go.WideShapes Go.ChangeAt Go.RowKit
set_option linter.unusedVariables false

theorem logV_drop (l : List Lg) (k : Nat) : (logV l).drop (k * 10) = logV (l.drop k) := by
  have h1 : logV l = logV (l.take k) ++ logV (l.drop k) := by
    unfold logV
    rw [← List.flatMap_append, List.take_append_drop]
  by_cases hk : k ≤ l.length
  · have h2 : (logV (l.take k)).length = k * 10 := by rw [logV_len, List.length_take]; congr 1; omega
    rw [h1, ← h2, List.drop_left]
  · rw [List.drop_eq_nil_of_le (show l.length ≤ k by omega), List.drop_eq_nil_of_le (by rw [logV_len]; omega)]
    rfl
theorem Ent.drop {w : World} {G : Nat → Prop} {b off n c k : Nat} {es : List Lg} (h : Ent w G (.slice (some ⟨b, off, none⟩) n c) es) (hk : k < es.length) : Ent w G (.slice (some ⟨b, off + k * 10, none⟩) (es.drop k).length (c - k)) (es.drop k) := by
  obtain ⟨A', c', h1, h2, h3, h4, h5⟩ := h
  injection h1 with e1 e2 e3
  subst e1 e2 e3
  rcases h5 with rfl | ⟨b', off', e1, e2, e3, e4⟩
  · simp at hk
  injection e1 with e1
  injection e1 with e5 e6
  subst e5 e6
  refine ⟨_, _, rfl, (fun hh => by cases hh), by rw [List.length_drop]; omega, by omega, .inr ⟨b, off + k * 10, rfl, e2, e3, fun q hq => ?_⟩⟩
  have hl := logV_len es
  have hd := logV_drop es k
  have hq2 : k * 10 + q < (logV es).length := by rw [← hd, List.length_drop] at hq; omega
  have := e4 (k * 10 + q) hq2
  rw [show off + k * 10 + q = off + (k * 10 + q) from by omega, this]
  simp only [← hd, List.getElem_drop]
/-- 's[k:]' behind the first entries. -/
theorem run_ents {b off n c k : Nat} (hk : k < n) (hc : n ≤ c) : ∀ w : World, (Instr.slice 36 (.slice (some ⟨b, off, none⟩) n c) (some (.int .i64 (k : Int))) none none).run Try.prog w = .ok (.slice (some ⟨b, off + k * 10, none⟩) (n - k) (c - k)) w := by
  intro w
  have he : Try.prog.elem 36 = TLg := by kernel_rfl
  have ht : Try.prog.underlying 36 = some (.slice TLg) := by kernel_rfl
  obtain ⟨i0, hi0, hz0, hz1, hz2⟩ := info_parts log_info
  rw [run_slice_l w 36 (some ⟨b, off, none⟩) n c (by rw [he]; exact ht) .i64 (k : Int) (by omega) (by omega), he]
  simp [sizeOf, typeInfo, hi0, hz1, sliced]
  rw [if_neg (by omega)]
  unfold Addr.add
  split <;> simp_all
section
variable {w w' : World} {F G : Nat → Prop} {p : Nat} {r : Rs} {s : Js} {n : Nat}
set_option maxRecDepth 100000 in
set_option maxHeartbeats 16000000 in
theorem p_append_yes (h : RAt w F p r n) (m : Ms) (A : Option Addr) (c : Nat) (hm : Proper r m) (hk : m.kind = 3) (ht : m.term ≤ r.js.term) (hE : Ent w G (.slice A m.es.length c) m.es) (hGF : ∀ i, G i → ¬ F i) (hes : ∀ x ∈ m.es, x.e.ok) (hN1 : ¬ m.term < r.js.term) (hN2 : ¬ r.role = 3) (hN3 : r.fits m = true) (hsz : n + 600000 ≤ 140737488355328) : Calls Try.prog 58 #[.pointer (some ⟨p, 0, none⟩), m.v (.slice A m.es.length c)] w (CallTo w F p (r.onAppend m) (n + 600000)) := by
  have hok := h.ok
  have hok2 := hok.onAppend hm hk ht hes
  have hi0m := hm.i0
  have hi1m := hm.i1
  have hl1m := (properA_iff (hm.a hk)).2.1
  have hcm0 := hm.c0
  have hcm1 := hm.c1
  have hcommit := hok.com
  have hfew := hok.log.few
  have hM := hE.rd.2.2.2.1
  have hM2 := hE.rd.2.2.1
  unfold maxLen at hM
  have hT := fun W (hf : Fr No w W) => p_term (h.frNo hf).rj
  have htl := take_log hok hm hk (by omega) hN3
  have hml := matchK_le r.js.log m.es m.index.toNat
  have hix : m.index ≤ r.js.log.length ∧ (m.index = 0 ∨ (0 < m.index ∧ termAt r.js.log (m.index - 1) = m.prev)) := by
    unfold Rs.fits at hN3
    simp only [decide_eq_true_eq] at hN3
    refine ⟨hN3.1, ?_⟩
    rcases hN3.2 with a | a
    · exact .inl a
    · by_cases b : m.index = 0
      · exact .inl b
      · exact .inr ⟨by omega, a⟩
  obtain ⟨W0, hW0⟩ : ∃ W0, W0 = w.alloc (.cells (m.cells (.slice A m.es.length c)).toArray TMs) := ⟨_, rfl⟩
  have hf0 : Fr No w W0 := by rw [hW0]; exact fr_alloc _ _
  obtain ⟨g, hg⟩ : ∃ g, g = w.heap.size := ⟨_, rfl⟩
  have hb : Blk W0 g TMs (m.cells (.slice A m.es.length c)).toArray := by rw [hW0, hg]; exact Blk.new _ _ _
  have hgF : ¬ F g := fun hh => by have := h.lt g hh; omega
  have hgw : w.heap.size ≤ g := by omega
  have hgp : g ≠ p := fun hh => hgF (hh ▸ h.self_)
  have hP : ∀ W, Fr No w W → W.cell? ⟨p, 3, none⟩ = some (.int .i64 r.role) ∧ W.frozen? ⟨p, 3, none⟩ = false := fun W hW => (let ⟨_, _, _, _, _, h1, _⟩ := h.frNo hW; ⟨h1.cell 3, h1.frozen 3⟩)
  have hC := fun W (hf : Fr No W0 W) => ms_cells (m := m) (hb.fr hf (fun h => h))
  have hFK : ∀ k : Nat, MatchAt r.js.log m.es m.index.toNat k → k ≤ m.es.length := fun k hh => hh.1
  obtain ⟨OV, hOV⟩ : ∃ OV, OV = r.onAppend m := ⟨_, rfl⟩
  obtain ⟨C, hC0⟩ : ∃ C, C = max r.commit (min m.commit.toNat (m.index.toNat + m.es.length)) := ⟨_, rfl⟩
  obtain ⟨ans, hans⟩ : ∃ ans, ans = r.answer m.from_ (m.index + m.es.length) true := ⟨_, rfl⟩
  have hov := hOV
  unfold Rs.onAppend at hov
  rw [if_neg hN1, if_neg hN2, if_neg (by rw [hN3]; simp), ← hC0, ← hans] at hov
  rw [← hOV] at hok2 ⊢
  have q1 : ∀ k : Nat, matchK r.js.log m.index.toNat m.es = k → k < m.es.length → m.index.toNat + k < r.commit → OV = ({ r with role := 1 }, []) := by
    intro k e1 e2 e3
    rw [hov, e1, if_pos e2, if_pos e3]
  have q2 : ∀ k : Nat, matchK r.js.log m.index.toNat m.es = k → k < m.es.length → ¬ m.index.toNat + k < r.commit → OV = ({ r with role := 1, js := replaceS r.js (m.index.toNat + k) (m.es.drop k), commit := C }, ans) ∧ RsOk { r with role := 1, js := replaceS r.js (m.index.toNat + k) (m.es.drop k) } ∧ m.index.toNat + k ≤ r.js.log.length ∧ C ≤ (replaceS r.js (m.index.toNat + k) (m.es.drop k)).log.length ∧ (replaceS r.js (m.index.toNat + k) (m.es.drop k)).term = r.js.term := by
    intro k e1 e2 e3
    have e4 : OV = ({ r with role := 1, js := replaceS r.js (m.index.toNat + k) (m.es.drop k), commit := C }, ans) := by rw [hov, e1, if_pos e2, if_neg e3]
    rw [e4] at hok2
    have h1 := hok2.com
    simp only at h1
    have h2 := htl.2 (by omega)
    rw [e1] at h2
    exact ⟨e4, ⟨hok2.log, hok2.lo, hok2.hi, hok2.vlo, hok2.vhi, hok.idn, hok.five, .inl rfl, by simp only; omega, hok.vts, fun hh => by simp at hh, fun hh => by simp at hh⟩, by omega, h1, by rw [h2]⟩
  have q3 : matchK r.js.log m.index.toNat m.es = m.es.length → OV = ({ r with role := 1, commit := C }, ans) ∧ C ≤ r.js.log.length := by
    intro e1
    have e4 : OV = ({ r with role := 1, commit := C }, ans) := by rw [hov, if_neg (by omega)]
    rw [e4] at hok2
    exact ⟨e4, hok2.com⟩
  have hAns : ∀ r' : Rs, r'.id = r.id → r'.js.term = r.js.term → r'.answer m.from_ (m.index + m.es.length) true = ans := by
    intro r' e1 e2
    rw [hans]
    unfold Rs.answer
    rw [e1, e2]
  have hM0 := MatchAt.zero r.js.log m.es m.index.toNat
  clear hov hOV hans htl hml hok2 hm hk hN3
  obtain ⟨kd, mf, mto, mt, ix, pv, cm, ok, es⟩ := m
  simp only [Ms.cells] at hW0 hC
  simp only at *
  obtain ⟨i, rfl⟩ : ∃ i : Nat, ix = i := ⟨ix.toNat, by omega⟩
  obtain ⟨mc, rfl⟩ : ∃ mc : Nat, cm = mc := ⟨cm.toNat, by omega⟩
  rw [Int.toNat_natCast] at hC0 hM0 q3
  simp only [Int.toNat_natCast] at hC0 hM0 q1 q2 q3 hFK
  have hcv : (if (r.commit : Int) < (if (i : Int) + (es.length : Int) < (mc : Int) then (i : Int) + (es.length : Int) else (mc : Int)) then (if (i : Int) + (es.length : Int) < (mc : Int) then (i : Int) + (es.length : Int) else (mc : Int)) else (r.commit : Int)) = (C : Int) := by rw [hC0]; split <;> split <;> omega
  have hel : es.length ≤ 4096 := by omega
  have hil : i ≤ 4096 := by omega
  obtain ⟨c0, c1, c2, c3, c4, c5, c6, c7, c8⟩ := hC _ (Fr.refl _ _)
  obtain ⟨p3, pf3⟩ := hP _ hf0
  have u1 : decide (mt < r.js.term) = false := by simpa using hN1
  have u2 : (r.role == 3) = false := by simpa using hN2
  have hfall := fun W (hf : Fr No W0 W) => (h.frNo (hf0.transNo hf)).fallen
  have hgW0 : g < W0.heap.size := hb.lt
  have hCp : ∀ W W2, Fr No W0 W → W2 = W.setCell ⟨p, 3, none⟩ (.int .i64 1) → Blk W2 g TMs ((⟨kd, mf, mto, mt, i, pv, mc, ok, es⟩ : Ms).cells (.slice A es.length c)).toArray := fun W W2 hf he => by rw [he]; exact (hb.fr hf (fun h => h)).setFar hgp _
  have hEp : ∀ W W2, Fr No W0 W → W2 = W.setCell ⟨p, 3, none⟩ (.int .i64 1) → Ent W2 (fun i => G i ∧ i < w.heap.size) (.slice A es.length c) es := fun W W2 hf he => by
    rw [he]
    exact (hE.lt.frNo (hf0.transNo hf)).fr (fr_set _ ⟨p, 3, none⟩ _) fun k hk hh => hGF k hk.1 (hh ▸ h.self_)
  obtain ⟨tt, htt⟩ : ∃ tt, tt = r.js.term := ⟨_, rfl⟩
  rw [← htt] at u1 hT
  clear h hok hb hP hE
  have HT := Lib.hid hT
  have HW0 := Lib.hid hW0
  have HF0 := Lib.hid hf0
  have HG := Lib.hid hg
  have HC := Lib.hid hC
  have HFALL := Lib.hid hfall
  have HCP := Lib.hid hCp
  have HEP := Lib.hid hEp
  have HTT := Lib.hid htt
  have Q1 := Lib.hid q1
  have Q2 := Lib.hid q2
  have Q3 := Lib.hid q3
  have HANS := Lib.hid hAns
  have HM0 := Lib.hid hM0
  have HC0 := Lib.hid hC0
  have HCV := Lib.hid hcv
  have HES := Lib.hid hes
  have HGF := Lib.hid hGF
  have HFK := Lib.hid hFK
  clear hT hW0 hf0 hg hC hfall hCp hEp htt q1 q2 q3 hAns hM0 hC0 hcv hes hGF hFK
  go_enter Try.func58, Try.ntmps58
  go_wp2_with fail
  rw [← HG.out, ← HW0.out]
  go_quiet ((go_at_call 38; exact quiet_same (HT.out _ (HF0.out.drewN _))))
  go_wp2_with fail
  obtain ⟨W2, hW2⟩ : ∃ W2, W2 = (W0.drewN nq).setCell ⟨p, 3, none⟩ (.int .i64 1) := ⟨_, rfl⟩
  rw [← hW2]
  have hr2 := HFALL.out _ ((Fr.refl No W0).drewN nq)
  rw [← hW2] at hr2
  have hb2 := HCP.out _ W2 ((Fr.refl No W0).drewN nq) hW2
  have hE2 := HEP.out _ W2 ((Fr.refl No W0).drewN nq) hW2
  clear hW2 c0 c1 c2 c3 c4 c5 c6 c7 c8 p3 pf3 HFALL HCP HEP
  have hC3 := fun V (hf : Fr No W2 V) => ms_cells (hb2.fr hf (fun h => h))
  simp only at hC3
  obtain ⟨c0, c1, c2, c3, c4, c5, c6, c7, c8⟩ := hC3 _ (Fr.refl _ _)
  obtain ⟨G2, a2, i2, f2⟩ := hr2
  have HWX : Fr No w (W0.drewN nq) := HF0.out.drewN nq
  have hg2 : ¬ G2 g := fun hh => by
    rcases i2 g hh with hh2 | hh2
    · exact hgF hh2
    · have : W0.heap.size ≤ g := hh2
      omega
  have hGF2 : ∀ i, (G i ∧ i < w.heap.size) → ¬ G2 i := fun i hi hh => by
    rcases i2 i hh with hh2 | hh2
    · exact HGF.out i hi.1 hh2
    · have h1 : W0.heap.size ≤ i := hh2
      have h2 := HF0.out.size
      omega
  have hL := fun V (hf : Fr No W2 V) => p_len (a2.frNo hf).rj
  simp only at hL
  have hfin := fun r' N V (hr : RTo W2 G2 p r' N V) => (RTo.after HWX (RTo.then f2 i2 hr) : RTo w F p r' N V)
  have hstill := fun V (hf : Fr No W2 V) => ((a2.more (m := n + 600000) (by omega)).still hf)
  have hfar := fun V r' N V' (hf : Fr No W2 V) (hr : RTo V G2 p r' N V') => RAt.far (a2.frNo hf) (hb2.fr hf (fun h => h)) hg2 hr
  have hbW := fun V (hf : Fr No W2 V) => hb2.fr hf (fun h => h)
  have hrep := fun V (hf : Fr No W2 V) b off k (hA : A = some ⟨b, off, none⟩) (hk : k < es.length) (e1 : matchK r.js.log i es = k) (e3 : ¬ i + k < r.commit) => (p_replace (a2.frNo hf) (i + k) (Q2.out k e1 hk e3).2.2.1 (some ⟨b, off + k * 10, none⟩) (c - k) (es.drop k) (by rw [hA] at hE2; exact (hE2.drop hk).frNo hf) hGF2 (fun x hx => HES.out x (List.mem_of_mem_drop hx)) (by rw [List.length_drop]; omega) (Q2.out k e1 hk e3).2.1 hsz : Calls Try.prog 81 #[.pointer (some ⟨p, 0, none⟩), .int .i64 ((i + k : Nat) : Int), .slice (some ⟨b, off + k * 10, none⟩) (es.drop k).length (c - k)] V fun e w' => e = .returned (.tuple #[]) ∧ RTo V G2 p { r with role := 1, js := replaceS r.js (i + k) (es.drop k) } (n + 600000) w')
  have hat := fun k hk => hE2.at_ (i := k) hk
  obtain ⟨j, Fj, bits, nx, mtc, h1, h2, h3, -⟩ := a2
  have hP0 : ∀ V, Fr No W2 V → V.cell? ⟨p, 0, none⟩ = some (.pointer (some ⟨j, 0, none⟩)) ∧ V.cell? ⟨p, 4, none⟩ = some (.int .i64 (r.commit : Int)) ∧ V.frozen? ⟨p, 4, none⟩ = false := fun V hf => ⟨(h1.fr hf (fun h => h)).cell 0, (h1.fr hf (fun h => h)).cell 4, (h1.fr hf (fun h => h)).frozen 4⟩
  have hTA := fun V (hf : Fr No W2 V) x => g_termAt (h3.frNo hf) x
  simp only at hTA
  have hslice := fun b off k (hk : k < es.length) => run_ents (b := b) (off := off) hk hM2
  have hM0 := HM0.out
  clear HM0 h1 h2 h3 hb2 hE2 i2 f2 hGF2 HWX hg2
  obtain ⟨LL, hLL⟩ : ∃ LL, LL = r.js.log.length := ⟨_, rfl⟩
  rw [← hLL] at hL hfew hcommit hix
  have hMS : ∀ k x, MatchAt r.js.log es i k → es[k]? = some x → ¬ termAt r.js.log ((i : Int) + (k : Int)) = x.term → matchK r.js.log i es = k := fun k x q1 q2 q3 => q1.stop q2 q3
  have hMN : ∀ k x, MatchAt r.js.log es i k → es[k]? = some x → termAt r.js.log ((i : Int) + (k : Int)) = x.term → MatchAt r.js.log es i (k + 1) := fun k x q1 q2 q3 => q1.next q2 q3
  have hMD : MatchAt r.js.log es i es.length → matchK r.js.log i es = es.length := fun q => q.done rfl
  obtain ⟨TA, hTAe⟩ : ∃ TA : Int → Int, TA = termAt r.js.log := ⟨_, rfl⟩
  rw [← hTAe] at hTA hMS hMN hix
  obtain ⟨MK, hMK⟩ : ∃ MK : Nat, MK = matchK r.js.log i es := ⟨_, rfl⟩
  obtain ⟨MA, hMA⟩ : ∃ MA : Nat → Prop, MA = MatchAt r.js.log es i := ⟨_, rfl⟩
  have hFK : ∀ k, MA k → k ≤ es.length := by rw [hMA]; exact HFK.out
  have q1 := Q1.out
  have q2 := Q2.out
  have q3 := Q3.out
  rw [← hMK] at hMS hMD hrep q1 q2 q3
  rw [← hMA] at hMS hMN hMD hM0
  clear hMK hMA hTAe Q1 Q2 Q3 HFK hLL
  have HC3 := Lib.hid hC3
  have HL := Lib.hid hL
  have HTA := Lib.hid hTA
  have HP0 := Lib.hid hP0
  have HAT := Lib.hid hat
  have HFIN := Lib.hid hfin
  have HSTILL := Lib.hid hstill
  have HFAR := Lib.hid hfar
  have HREP := Lib.hid hrep
  have HSLICE := Lib.hid hslice
  have HMS := Lib.hid hMS
  have HMN := Lib.hid hMN
  have HMD := Lib.hid hMD
  have HM0 := Lib.hid hM0
  have Q1 := Lib.hid q1
  have Q2 := Lib.hid q2
  have Q3 := Lib.hid q3
  have HFK := Lib.hid hFK
  have HBW := Lib.hid hbW
  clear hC3 hL hTA hP0 hat hfin hstill hfar hrep hslice hMS hMN hMD hM0 q1 q2 q3 hFK hbW
  rcases hix with ⟨hix1, a | ⟨a, hpv⟩⟩
  · have t1 : decide (LL < i) = false := by simp; omega
    have t1' : decide ((LL : Int) < (i : Int)) = false := by simp; omega
    have t2 : decide (0 < i) = false := by simp; omega
    have t2' : decide ((0 : Int) < (i : Int)) = false := by simp; omega
    clear a
    go_wp2_with fail
    refine wp_region_held_drew (S := fun V => Fr No W2 V ∧ V.cell? ⟨g, 4, none⟩ = some (.int .i64 (i : Int)) ∧ V.cell? ⟨g, 5, none⟩ = some (.int .i64 pv) ∧ V.cell? ⟨p, 0, none⟩ = some (.pointer (some ⟨j, 0, none⟩))) (by kernel_rfl) (⟨(Fr.refl No W2).drew, (HC3.out _ ((Fr.refl No W2).drew)).2.2.2.2.1, (HC3.out _ ((Fr.refl No W2).drew)).2.2.2.2.2.1, (HP0.out _ ((Fr.refl No W2).drew)).1⟩) (fun hHeld => ?_)
    refine tkY 0 (v := ?_) rfl ?_ ?_
    rotate_left
    · (intro w hSw; (try dsimp only at hSw); go_simp) <;> with_reducible rfl
    simp only [Act.put, za, zb, zc, zd, ze]
    refine tkY 1 (v := ?_) rfl ?_ ?_
    rotate_left
    · (intro w hSw; (try dsimp only at hSw); go_simp) <;> with_reducible rfl
    simp only [Act.put, za, zb, zc, zd, ze, zf]
    refine tkY 2 (v := ?_) rfl ?_ ?_
    rotate_left
    · (intro w hSw; (try dsimp only at hSw); go_simp) <;> with_reducible rfl
    simp only [Act.put, za, zb, zc, zd, ze, zf]
    refine wpAnyH_ready (rs := [3]) (by kernel_rfl) (by simp) (AllReadyH.cons rfl (fun K hK => ?_) AllReadyH.nil)
    go_simp
    refine (HL.out _ hHeld.1).mono ?_
    rintro e w5 ⟨rfl, rfl⟩
    have QV := Lib.hid (hHeld.1)
    go_wp2_with fail
    clear hHeld
    refine hK.out _ _ (⟨QV.out, (HC3.out _ (QV.out)).2.2.2.2.1, (HC3.out _ (QV.out)).2.2.2.2.2.1, (HP0.out _ (QV.out)).1⟩) (fun hHeld => ?_)
    clear hK K QV
    try simp only [Act.put, za, zb, zc, zd, ze, zf]
    refine tkY 4 (v := ?_) rfl ?_ ?_
    rotate_left
    · (intro w hSw; (try dsimp only at hSw); go_simp) <;> with_reducible rfl
    simp only [Act.put, za, zb, zc, zd, ze, zf]
    refine tkY 5 (v := ?_) rfl ?_ ?_
    rotate_left
    · (intro w hSw; (try dsimp only at hSw); go_simp) <;> with_reducible rfl
    simp only [Act.put, za, zb, zc, zd, ze, zf]
    refine tkY 6 (v := ?_) rfl ?_ ?_
    rotate_left
    · (intro w hSw; (try dsimp only at hSw); go_simp) <;> with_reducible rfl
    simp only [Act.put, za, zb, zc, zd, ze, zf]
    refine tkY 7 (v := ?_) rfl ?_ ?_
    rotate_left
    · (intro w hSw; (try dsimp only at hSw); go_simp) <;> with_reducible rfl
    simp only [Act.put, za, zb, zc, zd, ze, zf]
    refine tkY 8 (v := ?_) rfl ?_ ?_
    rotate_left
    · (intro w hSw; (try dsimp only at hSw); go_simp) <;> with_reducible rfl
    simp only [Act.put, za, zb, zc, zd, ze, zf]
    refine tkY 9 (v := ?_) rfl ?_ ?_
    rotate_left
    · (intro w hSw; (try dsimp only at hSw); go_simp) <;> with_reducible rfl
    simp only [Act.put, za, zb, zc, zd, ze, zf]
    refine tkN 10 rfl ?_
    simp only [Act.put, za, zb, zc, zd, ze, zf]
    refine tkN 11 rfl ?_
    simp only [Act.put, za, zb, zc, zd, ze, zf]
    refine tkN 12 rfl ?_
    simp only [Act.put, za, zb, zc, zd, ze, zf]
    refine tkN 13 rfl ?_
    simp only [Act.put, za, zb, zc, zd, ze, zf]
    refine tkN 14 rfl ?_
    simp only [Act.put, za, zb, zc, zd, ze, zf]
    refine tkN 15 rfl ?_
    simp only [Act.put, za, zb, zc, zd, ze, zf]
    refine tkN 16 rfl ?_
    simp only [Act.put, za, zb, zc, zd, ze, zf]
    refine tkN 17 rfl ?_
    simp only [Act.put, za, zb, zc, zd, ze, zf]
    refine tkN 18 rfl ?_
    simp only [Act.put, za, zb, zc, zd, ze, zf]
    refine tkN 19 rfl ?_
    simp only [Act.put, za, zb, zc, zd, ze, zf]
    refine tkN 20 rfl ?_
    simp only [Act.put, za, zb, zc, zd, ze, zf]
    refine tkY 21 (v := ?_) rfl ?_ ?_
    rotate_left
    · (intro w hSw; (try dsimp only at hSw); go_simp) <;> with_reducible rfl
    simp only [Act.put, za, zb, zc, zd, ze, zf]
    refine tkY 22 (v := ?_) rfl ?_ ?_
    rotate_left
    · (intro w hSw; (try dsimp only at hSw); go_simp) <;> with_reducible rfl
    simp only [Act.put, za, zb, zc, zd, ze, zf]
    refine wpAnyH_done (by kernel_rfl) ?_ _
    have K2 := Lib.hid hHeld.1
    clear hHeld
    clear c0 c1 c2 c3 c4 c5 c6 c7 c8
    clear t1 t1' t2 t2'
    go_wp2_with fail
    go_loopw [5] (fun kv wr => ∃ k : Nat, kv = .int .i64 k ∧ MA k ∧ Fr No W2 wr) (fun kv _ => es.length - (intOf kv).toNat)
    case atStart => exact ⟨0, rfl, HM0.out, K2.out⟩
    case round =>
      obtain ⟨k, rfl, hma, hf⟩ := hrel
      have hkl := HFK.out k hma
      clear K2
      have HMA := Lib.hid hma
      have HF := Lib.hid hf
      clear hma hf
      by_cases hlt : k < es.length
      · obtain ⟨b, off, x, rfl, hx, hcs⟩ := HAT.out k hlt
        have hee : ∀ V, Fr No W2 V → V.cell? ⟨b, off + k * 10, none⟩ = some (.int .i64 x.term) := fun V hV => (hcs V hV).1
        obtain ⟨xt, xe⟩ := x
        simp only at hee
        have hwr : IntKind.i64.wrap ((i : Int) + (k : Int)) = (i : Int) + (k : Int) := IntWalk.i64_in _ (by omega)
        have hlt2 : (k : Int) < (es.length : Int) := by omega
        have hd : decide (k < es.length) = true := by simpa using hlt
        have hd2 : decide ((k : Int) < (es.length : Int)) = true := by simpa using hlt
        clear hcs
        have HEE := Lib.hid hee
        have HX := Lib.hid hx
        clear hee hx
        by_cases he : TA ((i : Int) + (k : Int)) = xt
        · have heq : (TA ((i : Int) + (k : Int)) == xt) = true := by simpa using he
          have HE := Lib.hid he
          clear he
          go_wp2_with fail
          refine wp_region_held_drew (S := fun V => Fr No W2 V ∧ V.cell? ⟨g, 4, none⟩ = some (.int .i64 (i : Int)) ∧ V.cell? ⟨g, 8, none⟩ = some (.slice (some ⟨b, off, none⟩) es.length c) ∧ V.cell? ⟨p, 0, none⟩ = some (.pointer (some ⟨j, 0, none⟩)) ∧ V.cell? ⟨b, off + k * 10, none⟩ = some (.int .i64 xt)) (by kernel_rfl) (⟨HF.out.drew, (HC3.out _ (HF.out.drew)).2.2.2.2.1, (HC3.out _ (HF.out.drew)).2.2.2.2.2.2.2.2, (HP0.out _ (HF.out.drew)).1, HEE.out _ (HF.out.drew)⟩) (fun hHeld => ?_)
          refine tkY 0 (v := ?_) rfl ?_ ?_
          rotate_left
          · (intro w hSw; (try dsimp only at hSw); go_simp) <;> with_reducible rfl
          simp only [Act.put, za, zb, zc, zd, ze]
          refine tkY 1 (v := ?_) rfl ?_ ?_
          rotate_left
          · (intro w hSw; (try dsimp only at hSw); go_simp) <;> with_reducible rfl
          simp only [Act.put, za, zb, zc, zd, ze, zf]
          refine tkY 2 (v := ?_) rfl ?_ ?_
          rotate_left
          · (intro w hSw; (try dsimp only at hSw); go_simp) <;> with_reducible rfl
          simp only [Act.put, za, zb, zc, zd, ze, zf]
          refine tkY 3 (v := ?_) rfl ?_ ?_
          rotate_left
          · (intro w hSw; (try dsimp only at hSw); go_simp) <;> with_reducible rfl
          simp only [Act.put, za, zb, zc, zd, ze, zf]
          refine tkY 4 (v := ?_) rfl ?_ ?_
          rotate_left
          · (intro w hSw; (try dsimp only at hSw); go_simp) <;> with_reducible rfl
          simp only [Act.put, za, zb, zc, zd, ze, zf]
          refine tkY 5 (v := ?_) rfl ?_ ?_
          rotate_left
          · (intro w hSw; (try dsimp only at hSw); go_simp) <;> with_reducible rfl
          simp only [Act.put, za, zb, zc, zd, ze, zf]
          refine tkY 6 (v := ?_) rfl ?_ ?_
          rotate_left
          · (intro w hSw; (try dsimp only at hSw); go_simp) <;> with_reducible rfl
          simp only [Act.put, za, zb, zc, zd, ze, zf]
          refine tkY 7 (v := ?_) rfl ?_ ?_
          rotate_left
          · (intro w hSw; (try dsimp only at hSw); go_simp) <;> with_reducible rfl
          simp only [Act.put, za, zb, zc, zd, ze, zf]
          refine tkY 8 (v := ?_) rfl ?_ ?_
          rotate_left
          · (intro w hSw; (try dsimp only at hSw); go_simp) <;> with_reducible rfl
          simp only [Act.put, za, zb, zc, zd, ze, zf]
          refine tkY 9 (v := ?_) rfl ?_ ?_
          rotate_left
          · (intro w hSw; (try dsimp only at hSw); go_simp) <;> with_reducible rfl
          simp only [Act.put, za, zb, zc, zd, ze, zf]
          refine tkY 10 (v := ?_) rfl ?_ ?_
          rotate_left
          · (intro w hSw; (try dsimp only at hSw); go_simp) <;> with_reducible rfl
          simp only [Act.put, za, zb, zc, zd, ze, zf]
          refine tkY 11 (v := ?_) rfl ?_ ?_
          rotate_left
          · (intro w hSw; (try dsimp only at hSw); go_simp) <;> with_reducible rfl
          simp only [Act.put, za, zb, zc, zd, ze, zf]
          refine tkY 12 (v := ?_) rfl ?_ ?_
          rotate_left
          · (intro w hSw; (try dsimp only at hSw); go_simp) <;> with_reducible rfl
          simp only [Act.put, za, zb, zc, zd, ze, zf]
          refine tkY 13 (v := ?_) rfl ?_ ?_
          rotate_left
          · (intro w hSw; (try dsimp only at hSw); go_simp) <;> with_reducible rfl
          simp only [Act.put, za, zb, zc, zd, ze, zf]
          refine tkY 15 (v := ?_) rfl ?_ ?_
          rotate_left
          · (intro w hSw; (try dsimp only at hSw); go_simp) <;> with_reducible rfl
          simp only [Act.put, za, zb, zc, zd, ze, zf]
          refine tkY 16 (v := ?_) rfl ?_ ?_
          rotate_left
          · (intro w hSw; (try dsimp only at hSw); go_simp) <;> with_reducible rfl
          simp only [Act.put, za, zb, zc, zd, ze, zf]
          refine tkY 17 (v := ?_) rfl ?_ ?_
          rotate_left
          · (intro w hSw; (try dsimp only at hSw); go_simp) <;> with_reducible rfl
          simp only [Act.put, za, zb, zc, zd, ze, zf]
          refine tkY 18 (v := ?_) rfl ?_ ?_
          rotate_left
          · (intro w hSw; (try dsimp only at hSw); go_simp) <;> with_reducible rfl
          simp only [Act.put, za, zb, zc, zd, ze, zf]
          refine tkY 19 (v := ?_) rfl ?_ ?_
          rotate_left
          · (intro w hSw; (try dsimp only at hSw); go_simp) <;> with_reducible rfl
          simp only [Act.put, za, zb, zc, zd, ze, zf]
          refine tkY 20 (v := ?_) rfl ?_ ?_
          rotate_left
          · (intro w hSw; (try dsimp only at hSw); go_simp) <;> with_reducible rfl
          simp only [Act.put, za, zb, zc, zd, ze, zf]
          refine wpAnyH_ready (rs := [14]) (by kernel_rfl) (by simp) (AllReadyH.cons rfl (fun K hK => ?_) AllReadyH.nil)
          go_simp
          try rw [hwr]
          refine (HTA.out _ hHeld.1 _).mono ?_
          rintro e w5 ⟨rfl, q6⟩
          have QV := Lib.hid (hHeld.1.transNo q6)
          go_wp2_with fail
          clear hHeld
          refine hK.out _ _ (⟨QV.out, (HC3.out _ (QV.out)).2.2.2.2.1, (HC3.out _ (QV.out)).2.2.2.2.2.2.2.2, (HP0.out _ (QV.out)).1, HEE.out _ (QV.out)⟩) (fun hHeld => ?_)
          clear hK K QV
          try simp only [Act.put, za, zb, zc, zd, ze, zf]
          refine tkY 21 (v := ?_) rfl ?_ ?_
          rotate_left
          · (intro w hSw; (try dsimp only at hSw); go_simp) <;> with_reducible rfl
          simp only [Act.put, za, zb, zc, zd, ze, zf]
          refine tkY 22 (v := ?_) rfl ?_ ?_
          rotate_left
          · (intro w hSw; (try dsimp only at hSw); go_simp) <;> with_reducible rfl
          simp only [Act.put, za, zb, zc, zd, ze, zf]
          refine wpAnyH_done (by kernel_rfl) ?_ _
          have K2 := Lib.hid hHeld.1
          clear hHeld
          go_wp2_with fail
          go_roundw
          case rel => exact ⟨k + 1, by go_num, HMN.out k ⟨xt, xe⟩ HMA.out HX.out HE.out, K2.out⟩
          case measure => simp [intOf]; omega
        · have heq : (TA ((i : Int) + (k : Int)) == xt) = false := by simpa using he
          have hst := HMS.out k ⟨xt, xe⟩ HMA.out HX.out he
          clear he
          by_cases hcp : i + k < r.commit
          · have hc1 : decide (i + k < r.commit) = true := by simpa using hcp
            have hc2 : decide ((i : Int) + (k : Int) < (r.commit : Int)) = true := by simp; omega
            have hov := Q1.out k hst hlt hcp
            have HST := Lib.hid hst
            have HOV := Lib.hid hov
            clear hst hov
            go_wp2_with fail
            refine wp_region_held_drew (S := fun V => Fr No W2 V ∧ V.cell? ⟨g, 4, none⟩ = some (.int .i64 (i : Int)) ∧ V.cell? ⟨g, 8, none⟩ = some (.slice (some ⟨b, off, none⟩) es.length c) ∧ V.cell? ⟨p, 0, none⟩ = some (.pointer (some ⟨j, 0, none⟩)) ∧ V.cell? ⟨b, off + k * 10, none⟩ = some (.int .i64 xt)) (by kernel_rfl) (⟨HF.out.drew, (HC3.out _ (HF.out.drew)).2.2.2.2.1, (HC3.out _ (HF.out.drew)).2.2.2.2.2.2.2.2, (HP0.out _ (HF.out.drew)).1, HEE.out _ (HF.out.drew)⟩) (fun hHeld => ?_)
            refine tkY 0 (v := ?_) rfl ?_ ?_
            rotate_left
            · (intro w hSw; (try dsimp only at hSw); go_simp) <;> with_reducible rfl
            simp only [Act.put, za, zb, zc, zd, ze]
            refine tkY 1 (v := ?_) rfl ?_ ?_
            rotate_left
            · (intro w hSw; (try dsimp only at hSw); go_simp) <;> with_reducible rfl
            simp only [Act.put, za, zb, zc, zd, ze, zf]
            refine tkY 2 (v := ?_) rfl ?_ ?_
            rotate_left
            · (intro w hSw; (try dsimp only at hSw); go_simp) <;> with_reducible rfl
            simp only [Act.put, za, zb, zc, zd, ze, zf]
            refine tkY 3 (v := ?_) rfl ?_ ?_
            rotate_left
            · (intro w hSw; (try dsimp only at hSw); go_simp) <;> with_reducible rfl
            simp only [Act.put, za, zb, zc, zd, ze, zf]
            refine tkY 4 (v := ?_) rfl ?_ ?_
            rotate_left
            · (intro w hSw; (try dsimp only at hSw); go_simp) <;> with_reducible rfl
            simp only [Act.put, za, zb, zc, zd, ze, zf]
            refine tkY 5 (v := ?_) rfl ?_ ?_
            rotate_left
            · (intro w hSw; (try dsimp only at hSw); go_simp) <;> with_reducible rfl
            simp only [Act.put, za, zb, zc, zd, ze, zf]
            refine tkY 6 (v := ?_) rfl ?_ ?_
            rotate_left
            · (intro w hSw; (try dsimp only at hSw); go_simp) <;> with_reducible rfl
            simp only [Act.put, za, zb, zc, zd, ze, zf]
            refine tkY 7 (v := ?_) rfl ?_ ?_
            rotate_left
            · (intro w hSw; (try dsimp only at hSw); go_simp) <;> with_reducible rfl
            simp only [Act.put, za, zb, zc, zd, ze, zf]
            refine tkY 8 (v := ?_) rfl ?_ ?_
            rotate_left
            · (intro w hSw; (try dsimp only at hSw); go_simp) <;> with_reducible rfl
            simp only [Act.put, za, zb, zc, zd, ze, zf]
            refine tkY 9 (v := ?_) rfl ?_ ?_
            rotate_left
            · (intro w hSw; (try dsimp only at hSw); go_simp) <;> with_reducible rfl
            simp only [Act.put, za, zb, zc, zd, ze, zf]
            refine tkY 10 (v := ?_) rfl ?_ ?_
            rotate_left
            · (intro w hSw; (try dsimp only at hSw); go_simp) <;> with_reducible rfl
            simp only [Act.put, za, zb, zc, zd, ze, zf]
            refine tkY 11 (v := ?_) rfl ?_ ?_
            rotate_left
            · (intro w hSw; (try dsimp only at hSw); go_simp) <;> with_reducible rfl
            simp only [Act.put, za, zb, zc, zd, ze, zf]
            refine tkY 12 (v := ?_) rfl ?_ ?_
            rotate_left
            · (intro w hSw; (try dsimp only at hSw); go_simp) <;> with_reducible rfl
            simp only [Act.put, za, zb, zc, zd, ze, zf]
            refine tkY 13 (v := ?_) rfl ?_ ?_
            rotate_left
            · (intro w hSw; (try dsimp only at hSw); go_simp) <;> with_reducible rfl
            simp only [Act.put, za, zb, zc, zd, ze, zf]
            refine tkY 15 (v := ?_) rfl ?_ ?_
            rotate_left
            · (intro w hSw; (try dsimp only at hSw); go_simp) <;> with_reducible rfl
            simp only [Act.put, za, zb, zc, zd, ze, zf]
            refine tkY 16 (v := ?_) rfl ?_ ?_
            rotate_left
            · (intro w hSw; (try dsimp only at hSw); go_simp) <;> with_reducible rfl
            simp only [Act.put, za, zb, zc, zd, ze, zf]
            refine tkY 17 (v := ?_) rfl ?_ ?_
            rotate_left
            · (intro w hSw; (try dsimp only at hSw); go_simp) <;> with_reducible rfl
            simp only [Act.put, za, zb, zc, zd, ze, zf]
            refine tkY 18 (v := ?_) rfl ?_ ?_
            rotate_left
            · (intro w hSw; (try dsimp only at hSw); go_simp) <;> with_reducible rfl
            simp only [Act.put, za, zb, zc, zd, ze, zf]
            refine tkY 19 (v := ?_) rfl ?_ ?_
            rotate_left
            · (intro w hSw; (try dsimp only at hSw); go_simp) <;> with_reducible rfl
            simp only [Act.put, za, zb, zc, zd, ze, zf]
            refine tkY 20 (v := ?_) rfl ?_ ?_
            rotate_left
            · (intro w hSw; (try dsimp only at hSw); go_simp) <;> with_reducible rfl
            simp only [Act.put, za, zb, zc, zd, ze, zf]
            refine wpAnyH_ready (rs := [14]) (by kernel_rfl) (by simp) (AllReadyH.cons rfl (fun K hK => ?_) AllReadyH.nil)
            go_simp
            try rw [hwr]
            refine (HTA.out _ hHeld.1 _).mono ?_
            rintro e w5 ⟨rfl, q6⟩
            have QV := Lib.hid (hHeld.1.transNo q6)
            go_wp2_with fail
            clear hHeld
            refine hK.out _ _ (⟨QV.out, (HC3.out _ (QV.out)).2.2.2.2.1, (HC3.out _ (QV.out)).2.2.2.2.2.2.2.2, (HP0.out _ (QV.out)).1, HEE.out _ (QV.out)⟩) (fun hHeld => ?_)
            clear hK K QV
            try simp only [Act.put, za, zb, zc, zd, ze, zf]
            refine tkY 21 (v := ?_) rfl ?_ ?_
            rotate_left
            · (intro w hSw; (try dsimp only at hSw); go_simp) <;> with_reducible rfl
            simp only [Act.put, za, zb, zc, zd, ze, zf]
            refine tkY 22 (v := ?_) rfl ?_ ?_
            rotate_left
            · (intro w hSw; (try dsimp only at hSw); go_simp) <;> with_reducible rfl
            simp only [Act.put, za, zb, zc, zd, ze, zf]
            refine wpAnyH_done (by kernel_rfl) ?_ _
            have K2 := Lib.hid hHeld.1
            clear hHeld
            obtain ⟨c0, c1, c2, c3, c4, c5, c6, c7, c8⟩ := HC3.out _ K2.out
            obtain ⟨p0, p4, pf4⟩ := HP0.out _ K2.out
            clear hwr
            go_wp2_with fail
            go_ret
            rw [HOV.out]
            exact CallTo.mk' (HFIN.out _ _ _ (HSTILL.out _ K2.out)) (MsTo.none_ _)
          · have hc1 : decide (i + k < r.commit) = false := by simpa using hcp
            have hc2 : decide ((i : Int) + (k : Int) < (r.commit : Int)) = false := by simp; omega
            obtain ⟨hov, -, -, hC, htm⟩ := Q2.out k hst hlt hcp
            have hrp := fun V hf => HREP.out V hf b off k rfl hlt hst hcp
            simp only [Int.natCast_add, List.length_drop] at hrp
            have hsl := HSLICE.out b off k hlt
            have HST := Lib.hid hst
            have HOV := Lib.hid hov
            have HTM := Lib.hid htm
            have HRP := Lib.hid hrp
            have HC := Lib.hid hC
            clear hst hov htm hrp hC
            go_wp2_with fail
            refine wp_region_held_drew (S := fun V => Fr No W2 V ∧ V.cell? ⟨g, 4, none⟩ = some (.int .i64 (i : Int)) ∧ V.cell? ⟨g, 8, none⟩ = some (.slice (some ⟨b, off, none⟩) es.length c) ∧ V.cell? ⟨p, 0, none⟩ = some (.pointer (some ⟨j, 0, none⟩)) ∧ V.cell? ⟨b, off + k * 10, none⟩ = some (.int .i64 xt)) (by kernel_rfl) (⟨HF.out.drew, (HC3.out _ (HF.out.drew)).2.2.2.2.1, (HC3.out _ (HF.out.drew)).2.2.2.2.2.2.2.2, (HP0.out _ (HF.out.drew)).1, HEE.out _ (HF.out.drew)⟩) (fun hHeld => ?_)
            refine tkY 0 (v := ?_) rfl ?_ ?_
            rotate_left
            · (intro w hSw; (try dsimp only at hSw); go_simp) <;> with_reducible rfl
            simp only [Act.put, za, zb, zc, zd, ze]
            refine tkY 1 (v := ?_) rfl ?_ ?_
            rotate_left
            · (intro w hSw; (try dsimp only at hSw); go_simp) <;> with_reducible rfl
            simp only [Act.put, za, zb, zc, zd, ze, zf]
            refine tkY 2 (v := ?_) rfl ?_ ?_
            rotate_left
            · (intro w hSw; (try dsimp only at hSw); go_simp) <;> with_reducible rfl
            simp only [Act.put, za, zb, zc, zd, ze, zf]
            refine tkY 3 (v := ?_) rfl ?_ ?_
            rotate_left
            · (intro w hSw; (try dsimp only at hSw); go_simp) <;> with_reducible rfl
            simp only [Act.put, za, zb, zc, zd, ze, zf]
            refine tkY 4 (v := ?_) rfl ?_ ?_
            rotate_left
            · (intro w hSw; (try dsimp only at hSw); go_simp) <;> with_reducible rfl
            simp only [Act.put, za, zb, zc, zd, ze, zf]
            refine tkY 5 (v := ?_) rfl ?_ ?_
            rotate_left
            · (intro w hSw; (try dsimp only at hSw); go_simp) <;> with_reducible rfl
            simp only [Act.put, za, zb, zc, zd, ze, zf]
            refine tkY 6 (v := ?_) rfl ?_ ?_
            rotate_left
            · (intro w hSw; (try dsimp only at hSw); go_simp) <;> with_reducible rfl
            simp only [Act.put, za, zb, zc, zd, ze, zf]
            refine tkY 7 (v := ?_) rfl ?_ ?_
            rotate_left
            · (intro w hSw; (try dsimp only at hSw); go_simp) <;> with_reducible rfl
            simp only [Act.put, za, zb, zc, zd, ze, zf]
            refine tkY 8 (v := ?_) rfl ?_ ?_
            rotate_left
            · (intro w hSw; (try dsimp only at hSw); go_simp) <;> with_reducible rfl
            simp only [Act.put, za, zb, zc, zd, ze, zf]
            refine tkY 9 (v := ?_) rfl ?_ ?_
            rotate_left
            · (intro w hSw; (try dsimp only at hSw); go_simp) <;> with_reducible rfl
            simp only [Act.put, za, zb, zc, zd, ze, zf]
            refine tkY 10 (v := ?_) rfl ?_ ?_
            rotate_left
            · (intro w hSw; (try dsimp only at hSw); go_simp) <;> with_reducible rfl
            simp only [Act.put, za, zb, zc, zd, ze, zf]
            refine tkY 11 (v := ?_) rfl ?_ ?_
            rotate_left
            · (intro w hSw; (try dsimp only at hSw); go_simp) <;> with_reducible rfl
            simp only [Act.put, za, zb, zc, zd, ze, zf]
            refine tkY 12 (v := ?_) rfl ?_ ?_
            rotate_left
            · (intro w hSw; (try dsimp only at hSw); go_simp) <;> with_reducible rfl
            simp only [Act.put, za, zb, zc, zd, ze, zf]
            refine tkY 13 (v := ?_) rfl ?_ ?_
            rotate_left
            · (intro w hSw; (try dsimp only at hSw); go_simp) <;> with_reducible rfl
            simp only [Act.put, za, zb, zc, zd, ze, zf]
            refine tkY 15 (v := ?_) rfl ?_ ?_
            rotate_left
            · (intro w hSw; (try dsimp only at hSw); go_simp) <;> with_reducible rfl
            simp only [Act.put, za, zb, zc, zd, ze, zf]
            refine tkY 16 (v := ?_) rfl ?_ ?_
            rotate_left
            · (intro w hSw; (try dsimp only at hSw); go_simp) <;> with_reducible rfl
            simp only [Act.put, za, zb, zc, zd, ze, zf]
            refine tkY 17 (v := ?_) rfl ?_ ?_
            rotate_left
            · (intro w hSw; (try dsimp only at hSw); go_simp) <;> with_reducible rfl
            simp only [Act.put, za, zb, zc, zd, ze, zf]
            refine tkY 18 (v := ?_) rfl ?_ ?_
            rotate_left
            · (intro w hSw; (try dsimp only at hSw); go_simp) <;> with_reducible rfl
            simp only [Act.put, za, zb, zc, zd, ze, zf]
            refine tkY 19 (v := ?_) rfl ?_ ?_
            rotate_left
            · (intro w hSw; (try dsimp only at hSw); go_simp) <;> with_reducible rfl
            simp only [Act.put, za, zb, zc, zd, ze, zf]
            refine tkY 20 (v := ?_) rfl ?_ ?_
            rotate_left
            · (intro w hSw; (try dsimp only at hSw); go_simp) <;> with_reducible rfl
            simp only [Act.put, za, zb, zc, zd, ze, zf]
            refine wpAnyH_ready (rs := [14]) (by kernel_rfl) (by simp) (AllReadyH.cons rfl (fun K hK => ?_) AllReadyH.nil)
            go_simp
            try rw [hwr]
            refine (HTA.out _ hHeld.1 _).mono ?_
            rintro e w5 ⟨rfl, q6⟩
            have QV := Lib.hid (hHeld.1.transNo q6)
            go_wp2_with fail
            clear hHeld
            refine hK.out _ _ (⟨QV.out, (HC3.out _ (QV.out)).2.2.2.2.1, (HC3.out _ (QV.out)).2.2.2.2.2.2.2.2, (HP0.out _ (QV.out)).1, HEE.out _ (QV.out)⟩) (fun hHeld => ?_)
            clear hK K QV
            try simp only [Act.put, za, zb, zc, zd, ze, zf]
            refine tkY 21 (v := ?_) rfl ?_ ?_
            rotate_left
            · (intro w hSw; (try dsimp only at hSw); go_simp) <;> with_reducible rfl
            simp only [Act.put, za, zb, zc, zd, ze, zf]
            refine tkY 22 (v := ?_) rfl ?_ ?_
            rotate_left
            · (intro w hSw; (try dsimp only at hSw); go_simp) <;> with_reducible rfl
            simp only [Act.put, za, zb, zc, zd, ze, zf]
            refine wpAnyH_done (by kernel_rfl) ?_ _
            have K2 := Lib.hid hHeld.1
            clear hHeld
            obtain ⟨c0, c1, c2, c3, c4, c5, c6, c7, c8⟩ := HC3.out _ K2.out
            obtain ⟨p0, p4, pf4⟩ := HP0.out _ K2.out
            clear hwr
            go_wp2_with fail
            refine (HRP.out _ K2.out).mono ?_
            rintro e w7 ⟨rfl, t7⟩
            have HB3 := Lib.hid (HFAR.out _ _ _ _ K2.out t7)
            have TT := Lib.hid (RTo.after K2.out t7)
            clear t7 c0 c1 c2 c3 c4 c5 c6 c7 c8 p0 p4 pf4
            have hC := HC.out
            obtain ⟨G3, a3, i3, f3⟩ := TT.out
            have hb3 := HB3.out
            obtain ⟨c0, c1, c2, c3, c4, c5, c6, c7, c8⟩ := ms_cells hb3
            simp only at c0 c1 c2 c3 c4 c5 c6 c7 c8
            obtain ⟨p4, pf4⟩ : w7.cell? ⟨p, 4, none⟩ = some (.int .i64 (r.commit : Int)) ∧ w7.frozen? ⟨p, 4, none⟩ = false := (let ⟨_, _, _, _, _, h1, _⟩ := a3; ⟨h1.cell 4, h1.frozen 4⟩)
            have hset := (a3.commits rfl C hC).quiet ((Fr.refl No _).drew)
            have hb4 : Blk ((w7.setCell ⟨p, 4, none⟩ (.int .i64 (C : Int))).drew) g TMs _ := hb3.setFar hgp (.int .i64 (C : Int))
            have hrf := fun V r' N (h : RTo w7 G3 p r' N V) => HFIN.out r' N V (RTo.then f3 i3 h)
            clear a3 i3 f3 hb3 HB3 TT
            have HSET := Lib.hid hset
            have HB4 := Lib.hid hb4
            have HRF := Lib.hid hrf
            clear hset hb4 hrf
            go_wp2_with fail
            go_region
            all_goals
              rw [HCV.out]
              generalize (if (i : Int) + (es.length : Int) < (mc : Int) then (i : Int) + (es.length : Int) else (mc : Int)) = mn
              have hr9 := HRF.out _ _ _ HSET.out
              obtain ⟨c0, c1, c2, c3, c4, c5, c6, c7, c8⟩ := ms_cells HB4.out
              simp only at c0 c1 c2 c3 c4 c5 c6 c7 c8
              obtain ⟨G5, a5, i5, f5⟩ := HSET.out
              have hst := p_stored a5 mf ((i : Int) + (es.length : Int)) true
              rw [HANS.out { r with role := 1, js := replaceS r.js (i + k) (es.drop k), commit := C } rfl HTM.out] at hst
              clear a5 i5 f5 HSET HB4 HRF
              generalize (w7.setCell ⟨p, 4, none⟩ (.int .i64 (C : Int))).drew = w8 at *
              have HST := Lib.hid hst
              have HR9 := Lib.hid hr9
              clear hst hr9
              go_wp2_with fail
              refine HST.out.mono ?_
              rintro e w9 m9
              have M := Lib.hid m9
              obtain ⟨A5, c5', rfl, -, -⟩ := m9
              go_wp2_with fail
              go_ret
              rw [HOV.out]
              exact CallTo.mk' HR9.out M.out
      · obtain rfl : k = es.length := by omega
        have hd : decide (es.length < es.length) = false := by simp
        have hd2 : decide ((es.length : Int) < (es.length : Int)) = false := by simp
        obtain ⟨hov, hC⟩ := Q3.out (HMD.out HMA.out)
        have HOV := Lib.hid hov
        clear hov
        go_wp2_with fail
        refine wp_region_held_drew (S := fun V => Fr No W2 V ∧ V.cell? ⟨g, 8, none⟩ = some (.slice A es.length c)) (by kernel_rfl) (⟨HF.out.drew, (HC3.out _ (HF.out.drew)).2.2.2.2.2.2.2.2⟩) (fun hHeld => ?_)
        refine tkY 0 (v := ?_) rfl ?_ ?_
        rotate_left
        · (intro w hSw; (try dsimp only at hSw); go_simp) <;> with_reducible rfl
        simp only [Act.put, za, zb, zc, zd, ze]
        refine tkY 1 (v := ?_) rfl ?_ ?_
        rotate_left
        · (intro w hSw; (try dsimp only at hSw); go_simp) <;> with_reducible rfl
        simp only [Act.put, za, zb, zc, zd, ze, zf]
        refine tkY 2 (v := ?_) rfl ?_ ?_
        rotate_left
        · (intro w hSw; (try dsimp only at hSw); go_simp) <;> with_reducible rfl
        simp only [Act.put, za, zb, zc, zd, ze, zf]
        refine tkY 3 (v := ?_) rfl ?_ ?_
        rotate_left
        · (intro w hSw; (try dsimp only at hSw); go_simp) <;> with_reducible rfl
        simp only [Act.put, za, zb, zc, zd, ze, zf]
        refine tkY 4 (v := ?_) rfl ?_ ?_
        rotate_left
        · (intro w hSw; (try dsimp only at hSw); go_simp) <;> with_reducible rfl
        simp only [Act.put, za, zb, zc, zd, ze, zf]
        refine tkY 5 (v := ?_) rfl ?_ ?_
        rotate_left
        · (intro w hSw; (try dsimp only at hSw); go_simp) <;> with_reducible rfl
        simp only [Act.put, za, zb, zc, zd, ze, zf]
        refine tkN 6 rfl ?_
        simp only [Act.put, za, zb, zc, zd, ze, zf]
        refine tkN 7 rfl ?_
        simp only [Act.put, za, zb, zc, zd, ze, zf]
        refine tkN 8 rfl ?_
        simp only [Act.put, za, zb, zc, zd, ze, zf]
        refine tkN 9 rfl ?_
        simp only [Act.put, za, zb, zc, zd, ze, zf]
        refine tkN 10 rfl ?_
        simp only [Act.put, za, zb, zc, zd, ze, zf]
        refine tkN 11 rfl ?_
        simp only [Act.put, za, zb, zc, zd, ze, zf]
        refine tkN 12 rfl ?_
        simp only [Act.put, za, zb, zc, zd, ze, zf]
        refine tkN 13 rfl ?_
        simp only [Act.put, za, zb, zc, zd, ze, zf]
        refine tkN 14 rfl ?_
        simp only [Act.put, za, zb, zc, zd, ze, zf]
        refine tkN 15 rfl ?_
        simp only [Act.put, za, zb, zc, zd, ze, zf]
        refine tkN 16 rfl ?_
        simp only [Act.put, za, zb, zc, zd, ze, zf]
        refine tkN 17 rfl ?_
        simp only [Act.put, za, zb, zc, zd, ze, zf]
        refine tkN 18 rfl ?_
        simp only [Act.put, za, zb, zc, zd, ze, zf]
        refine tkN 19 rfl ?_
        simp only [Act.put, za, zb, zc, zd, ze, zf]
        refine tkN 20 rfl ?_
        simp only [Act.put, za, zb, zc, zd, ze, zf]
        refine tkN 21 rfl ?_
        simp only [Act.put, za, zb, zc, zd, ze, zf]
        refine tkY 22 (v := ?_) rfl ?_ ?_
        rotate_left
        · (intro w hSw; (try dsimp only at hSw); go_simp) <;> with_reducible rfl
        simp only [Act.put, za, zb, zc, zd, ze, zf]
        refine wpAnyH_done (by kernel_rfl) ?_ _
        have K2 := Lib.hid hHeld.1
        clear hHeld
        obtain ⟨c0, c1, c2, c3, c4, c5, c6, c7, c8⟩ := HC3.out _ K2.out
        obtain ⟨p0, p4, pf4⟩ := HP0.out _ K2.out
        clear c0 c1 c2 c3 c4 c5 c6 c7 c8 p0 p4 pf4
        generalize wr.drew = w7 at *
        have HB3 := Lib.hid (HBW.out _ K2.out)
        have TT := Lib.hid (HSTILL.out _ K2.out)
        obtain ⟨G3, a3, i3, f3⟩ := TT.out
        have hb3 := HB3.out
        obtain ⟨c0, c1, c2, c3, c4, c5, c6, c7, c8⟩ := ms_cells hb3
        simp only at c0 c1 c2 c3 c4 c5 c6 c7 c8
        obtain ⟨p4, pf4⟩ : w7.cell? ⟨p, 4, none⟩ = some (.int .i64 (r.commit : Int)) ∧ w7.frozen? ⟨p, 4, none⟩ = false := (let ⟨_, _, _, _, _, h1, _⟩ := a3; ⟨h1.cell 4, h1.frozen 4⟩)
        have hset := (a3.commits rfl C hC).quiet ((Fr.refl No _).drew)
        have hb4 : Blk ((w7.setCell ⟨p, 4, none⟩ (.int .i64 (C : Int))).drew) g TMs _ := hb3.setFar hgp (.int .i64 (C : Int))
        have hrf := fun V r' N (h : RTo w7 G3 p r' N V) => HFIN.out r' N V (RTo.then f3 i3 h)
        clear a3 i3 f3 hb3 HB3 TT
        have HSET := Lib.hid hset
        have HB4 := Lib.hid hb4
        have HRF := Lib.hid hrf
        clear hset hb4 hrf
        go_wp2_with fail
        go_region
        all_goals
          rw [HCV.out]
          generalize (if (i : Int) + (es.length : Int) < (mc : Int) then (i : Int) + (es.length : Int) else (mc : Int)) = mn
          have hr9 := HRF.out _ _ _ HSET.out
          obtain ⟨c0, c1, c2, c3, c4, c5, c6, c7, c8⟩ := ms_cells HB4.out
          simp only at c0 c1 c2 c3 c4 c5 c6 c7 c8
          obtain ⟨G5, a5, i5, f5⟩ := HSET.out
          have hst := p_stored a5 mf ((i : Int) + (es.length : Int)) true
          rw [HANS.out { r with role := 1, commit := C } rfl rfl] at hst
          clear a5 i5 f5 HSET HB4 HRF
          generalize (w7.setCell ⟨p, 4, none⟩ (.int .i64 (C : Int))).drew = w8 at *
          have HST := Lib.hid hst
          have HR9 := Lib.hid hr9
          clear hst hr9
          go_wp2_with fail
          refine HST.out.mono ?_
          rintro e w9 m9
          have M := Lib.hid m9
          obtain ⟨A5, c5', rfl, -, -⟩ := m9
          go_wp2_with fail
          go_ret
          rw [HOV.out]
          exact CallTo.mk' HR9.out M.out
  · have t1 : decide (LL < i) = false := by simp; omega
    have t1' : decide ((LL : Int) < (i : Int)) = false := by simp; omega
    have t2 : decide (0 < i) = true := by simp; omega
    have t2' : decide ((0 : Int) < (i : Int)) = true := by simp; omega
    have t3 : (TA ((i : Int) - 1) != pv) = false := by simpa using hpv
    have hwr : IntKind.i64.wrap ((i : Int) - 1) = (i : Int) - 1 := IntWalk.i64_in _ (by omega)
    clear a
    clear hpv
    go_wp2_with fail
    refine wp_region_held_drew (S := fun V => Fr No W2 V ∧ V.cell? ⟨g, 4, none⟩ = some (.int .i64 (i : Int)) ∧ V.cell? ⟨g, 5, none⟩ = some (.int .i64 pv) ∧ V.cell? ⟨p, 0, none⟩ = some (.pointer (some ⟨j, 0, none⟩))) (by kernel_rfl) (⟨(Fr.refl No W2).drew, (HC3.out _ ((Fr.refl No W2).drew)).2.2.2.2.1, (HC3.out _ ((Fr.refl No W2).drew)).2.2.2.2.2.1, (HP0.out _ ((Fr.refl No W2).drew)).1⟩) (fun hHeld => ?_)
    refine tkY 0 (v := ?_) rfl ?_ ?_
    rotate_left
    · (intro w hSw; (try dsimp only at hSw); go_simp) <;> with_reducible rfl
    simp only [Act.put, za, zb, zc, zd, ze]
    refine tkY 1 (v := ?_) rfl ?_ ?_
    rotate_left
    · (intro w hSw; (try dsimp only at hSw); go_simp) <;> with_reducible rfl
    simp only [Act.put, za, zb, zc, zd, ze, zf]
    refine tkY 2 (v := ?_) rfl ?_ ?_
    rotate_left
    · (intro w hSw; (try dsimp only at hSw); go_simp) <;> with_reducible rfl
    simp only [Act.put, za, zb, zc, zd, ze, zf]
    refine wpAnyH_ready (rs := [3]) (by kernel_rfl) (by simp) (AllReadyH.cons rfl (fun K hK => ?_) AllReadyH.nil)
    go_simp
    refine (HL.out _ hHeld.1).mono ?_
    rintro e w5 ⟨rfl, rfl⟩
    have QV := Lib.hid (hHeld.1)
    go_wp2_with fail
    clear hHeld
    refine hK.out _ _ (⟨QV.out, (HC3.out _ (QV.out)).2.2.2.2.1, (HC3.out _ (QV.out)).2.2.2.2.2.1, (HP0.out _ (QV.out)).1⟩) (fun hHeld => ?_)
    clear hK K QV
    try simp only [Act.put, za, zb, zc, zd, ze, zf]
    refine tkY 4 (v := ?_) rfl ?_ ?_
    rotate_left
    · (intro w hSw; (try dsimp only at hSw); go_simp) <;> with_reducible rfl
    simp only [Act.put, za, zb, zc, zd, ze, zf]
    refine tkY 5 (v := ?_) rfl ?_ ?_
    rotate_left
    · (intro w hSw; (try dsimp only at hSw); go_simp) <;> with_reducible rfl
    simp only [Act.put, za, zb, zc, zd, ze, zf]
    refine tkY 6 (v := ?_) rfl ?_ ?_
    rotate_left
    · (intro w hSw; (try dsimp only at hSw); go_simp) <;> with_reducible rfl
    simp only [Act.put, za, zb, zc, zd, ze, zf]
    refine tkY 7 (v := ?_) rfl ?_ ?_
    rotate_left
    · (intro w hSw; (try dsimp only at hSw); go_simp) <;> with_reducible rfl
    simp only [Act.put, za, zb, zc, zd, ze, zf]
    refine tkY 8 (v := ?_) rfl ?_ ?_
    rotate_left
    · (intro w hSw; (try dsimp only at hSw); go_simp) <;> with_reducible rfl
    simp only [Act.put, za, zb, zc, zd, ze, zf]
    refine tkY 9 (v := ?_) rfl ?_ ?_
    rotate_left
    · (intro w hSw; (try dsimp only at hSw); go_simp) <;> with_reducible rfl
    simp only [Act.put, za, zb, zc, zd, ze, zf]
    refine tkY 10 (v := ?_) rfl ?_ ?_
    rotate_left
    · (intro w hSw; (try dsimp only at hSw); go_simp) <;> with_reducible rfl
    simp only [Act.put, za, zb, zc, zd, ze, zf]
    refine tkY 11 (v := ?_) rfl ?_ ?_
    rotate_left
    · (intro w hSw; (try dsimp only at hSw); go_simp) <;> with_reducible rfl
    simp only [Act.put, za, zb, zc, zd, ze, zf]
    refine tkY 12 (v := ?_) rfl ?_ ?_
    rotate_left
    · (intro w hSw; (try dsimp only at hSw); go_simp) <;> with_reducible rfl
    simp only [Act.put, za, zb, zc, zd, ze, zf]
    refine tkY 13 (v := ?_) rfl ?_ ?_
    rotate_left
    · (intro w hSw; (try dsimp only at hSw); go_simp) <;> with_reducible rfl
    simp only [Act.put, za, zb, zc, zd, ze, zf]
    refine tkY 14 (v := ?_) rfl ?_ ?_
    rotate_left
    · (intro w hSw; (try dsimp only at hSw); go_simp) <;> with_reducible rfl
    simp only [Act.put, za, zb, zc, zd, ze, zf]
    refine tkY 15 (v := ?_) rfl ?_ ?_
    rotate_left
    · (intro w hSw; (try dsimp only at hSw); go_simp) <;> with_reducible rfl
    simp only [Act.put, za, zb, zc, zd, ze, zf]
    refine tkY 16 (v := ?_) rfl ?_ ?_
    rotate_left
    · (intro w hSw; (try dsimp only at hSw); go_simp) <;> with_reducible rfl
    simp only [Act.put, za, zb, zc, zd, ze, zf]
    refine tkY 18 (v := ?_) rfl ?_ ?_
    rotate_left
    · (intro w hSw; (try dsimp only at hSw); go_simp) <;> with_reducible rfl
    simp only [Act.put, za, zb, zc, zd, ze, zf]
    refine tkY 19 (v := ?_) rfl ?_ ?_
    rotate_left
    · (intro w hSw; (try dsimp only at hSw); go_simp) <;> with_reducible rfl
    simp only [Act.put, za, zb, zc, zd, ze, zf]
    refine wpAnyH_ready (rs := [17]) (by kernel_rfl) (by simp) (AllReadyH.cons rfl (fun K hK => ?_) AllReadyH.nil)
    go_simp
    try rw [hwr]
    refine (HTA.out _ hHeld.1 _).mono ?_
    rintro e w5 ⟨rfl, q6⟩
    have QV := Lib.hid (hHeld.1.transNo q6)
    go_wp2_with fail
    clear hHeld
    refine hK.out _ _ (⟨QV.out, (HC3.out _ (QV.out)).2.2.2.2.1, (HC3.out _ (QV.out)).2.2.2.2.2.1, (HP0.out _ (QV.out)).1⟩) (fun hHeld => ?_)
    clear hK K QV
    try simp only [Act.put, za, zb, zc, zd, ze, zf]
    refine tkY 20 (v := ?_) rfl ?_ ?_
    rotate_left
    · (intro w hSw; (try dsimp only at hSw); go_simp) <;> with_reducible rfl
    simp only [Act.put, za, zb, zc, zd, ze, zf]
    refine tkY 21 (v := ?_) rfl ?_ ?_
    rotate_left
    · (intro w hSw; (try dsimp only at hSw); go_simp) <;> with_reducible rfl
    simp only [Act.put, za, zb, zc, zd, ze, zf]
    refine tkY 22 (v := ?_) rfl ?_ ?_
    rotate_left
    · (intro w hSw; (try dsimp only at hSw); go_simp) <;> with_reducible rfl
    simp only [Act.put, za, zb, zc, zd, ze, zf]
    refine wpAnyH_done (by kernel_rfl) ?_ _
    have K2 := Lib.hid hHeld.1
    clear hHeld
    clear c0 c1 c2 c3 c4 c5 c6 c7 c8
    clear hwr t3
    clear t1 t1' t2 t2'
    go_wp2_with fail
    go_loopw [5] (fun kv wr => ∃ k : Nat, kv = .int .i64 k ∧ MA k ∧ Fr No W2 wr) (fun kv _ => es.length - (intOf kv).toNat)
    case atStart => exact ⟨0, rfl, HM0.out, K2.out⟩
    case round =>
      obtain ⟨k, rfl, hma, hf⟩ := hrel
      have hkl := HFK.out k hma
      clear K2
      have HMA := Lib.hid hma
      have HF := Lib.hid hf
      clear hma hf
      by_cases hlt : k < es.length
      · obtain ⟨b, off, x, rfl, hx, hcs⟩ := HAT.out k hlt
        have hee : ∀ V, Fr No W2 V → V.cell? ⟨b, off + k * 10, none⟩ = some (.int .i64 x.term) := fun V hV => (hcs V hV).1
        obtain ⟨xt, xe⟩ := x
        simp only at hee
        have hwr : IntKind.i64.wrap ((i : Int) + (k : Int)) = (i : Int) + (k : Int) := IntWalk.i64_in _ (by omega)
        have hlt2 : (k : Int) < (es.length : Int) := by omega
        have hd : decide (k < es.length) = true := by simpa using hlt
        have hd2 : decide ((k : Int) < (es.length : Int)) = true := by simpa using hlt
        clear hcs
        have HEE := Lib.hid hee
        have HX := Lib.hid hx
        clear hee hx
        by_cases he : TA ((i : Int) + (k : Int)) = xt
        · have heq : (TA ((i : Int) + (k : Int)) == xt) = true := by simpa using he
          have HE := Lib.hid he
          clear he
          go_wp2_with fail
          refine wp_region_held_drew (S := fun V => Fr No W2 V ∧ V.cell? ⟨g, 4, none⟩ = some (.int .i64 (i : Int)) ∧ V.cell? ⟨g, 8, none⟩ = some (.slice (some ⟨b, off, none⟩) es.length c) ∧ V.cell? ⟨p, 0, none⟩ = some (.pointer (some ⟨j, 0, none⟩)) ∧ V.cell? ⟨b, off + k * 10, none⟩ = some (.int .i64 xt)) (by kernel_rfl) (⟨HF.out.drew, (HC3.out _ (HF.out.drew)).2.2.2.2.1, (HC3.out _ (HF.out.drew)).2.2.2.2.2.2.2.2, (HP0.out _ (HF.out.drew)).1, HEE.out _ (HF.out.drew)⟩) (fun hHeld => ?_)
          refine tkY 0 (v := ?_) rfl ?_ ?_
          rotate_left
          · (intro w hSw; (try dsimp only at hSw); go_simp) <;> with_reducible rfl
          simp only [Act.put, za, zb, zc, zd, ze]
          refine tkY 1 (v := ?_) rfl ?_ ?_
          rotate_left
          · (intro w hSw; (try dsimp only at hSw); go_simp) <;> with_reducible rfl
          simp only [Act.put, za, zb, zc, zd, ze, zf]
          refine tkY 2 (v := ?_) rfl ?_ ?_
          rotate_left
          · (intro w hSw; (try dsimp only at hSw); go_simp) <;> with_reducible rfl
          simp only [Act.put, za, zb, zc, zd, ze, zf]
          refine tkY 3 (v := ?_) rfl ?_ ?_
          rotate_left
          · (intro w hSw; (try dsimp only at hSw); go_simp) <;> with_reducible rfl
          simp only [Act.put, za, zb, zc, zd, ze, zf]
          refine tkY 4 (v := ?_) rfl ?_ ?_
          rotate_left
          · (intro w hSw; (try dsimp only at hSw); go_simp) <;> with_reducible rfl
          simp only [Act.put, za, zb, zc, zd, ze, zf]
          refine tkY 5 (v := ?_) rfl ?_ ?_
          rotate_left
          · (intro w hSw; (try dsimp only at hSw); go_simp) <;> with_reducible rfl
          simp only [Act.put, za, zb, zc, zd, ze, zf]
          refine tkY 6 (v := ?_) rfl ?_ ?_
          rotate_left
          · (intro w hSw; (try dsimp only at hSw); go_simp) <;> with_reducible rfl
          simp only [Act.put, za, zb, zc, zd, ze, zf]
          refine tkY 7 (v := ?_) rfl ?_ ?_
          rotate_left
          · (intro w hSw; (try dsimp only at hSw); go_simp) <;> with_reducible rfl
          simp only [Act.put, za, zb, zc, zd, ze, zf]
          refine tkY 8 (v := ?_) rfl ?_ ?_
          rotate_left
          · (intro w hSw; (try dsimp only at hSw); go_simp) <;> with_reducible rfl
          simp only [Act.put, za, zb, zc, zd, ze, zf]
          refine tkY 9 (v := ?_) rfl ?_ ?_
          rotate_left
          · (intro w hSw; (try dsimp only at hSw); go_simp) <;> with_reducible rfl
          simp only [Act.put, za, zb, zc, zd, ze, zf]
          refine tkY 10 (v := ?_) rfl ?_ ?_
          rotate_left
          · (intro w hSw; (try dsimp only at hSw); go_simp) <;> with_reducible rfl
          simp only [Act.put, za, zb, zc, zd, ze, zf]
          refine tkY 11 (v := ?_) rfl ?_ ?_
          rotate_left
          · (intro w hSw; (try dsimp only at hSw); go_simp) <;> with_reducible rfl
          simp only [Act.put, za, zb, zc, zd, ze, zf]
          refine tkY 12 (v := ?_) rfl ?_ ?_
          rotate_left
          · (intro w hSw; (try dsimp only at hSw); go_simp) <;> with_reducible rfl
          simp only [Act.put, za, zb, zc, zd, ze, zf]
          refine tkY 13 (v := ?_) rfl ?_ ?_
          rotate_left
          · (intro w hSw; (try dsimp only at hSw); go_simp) <;> with_reducible rfl
          simp only [Act.put, za, zb, zc, zd, ze, zf]
          refine tkY 15 (v := ?_) rfl ?_ ?_
          rotate_left
          · (intro w hSw; (try dsimp only at hSw); go_simp) <;> with_reducible rfl
          simp only [Act.put, za, zb, zc, zd, ze, zf]
          refine tkY 16 (v := ?_) rfl ?_ ?_
          rotate_left
          · (intro w hSw; (try dsimp only at hSw); go_simp) <;> with_reducible rfl
          simp only [Act.put, za, zb, zc, zd, ze, zf]
          refine tkY 17 (v := ?_) rfl ?_ ?_
          rotate_left
          · (intro w hSw; (try dsimp only at hSw); go_simp) <;> with_reducible rfl
          simp only [Act.put, za, zb, zc, zd, ze, zf]
          refine tkY 18 (v := ?_) rfl ?_ ?_
          rotate_left
          · (intro w hSw; (try dsimp only at hSw); go_simp) <;> with_reducible rfl
          simp only [Act.put, za, zb, zc, zd, ze, zf]
          refine tkY 19 (v := ?_) rfl ?_ ?_
          rotate_left
          · (intro w hSw; (try dsimp only at hSw); go_simp) <;> with_reducible rfl
          simp only [Act.put, za, zb, zc, zd, ze, zf]
          refine tkY 20 (v := ?_) rfl ?_ ?_
          rotate_left
          · (intro w hSw; (try dsimp only at hSw); go_simp) <;> with_reducible rfl
          simp only [Act.put, za, zb, zc, zd, ze, zf]
          refine wpAnyH_ready (rs := [14]) (by kernel_rfl) (by simp) (AllReadyH.cons rfl (fun K hK => ?_) AllReadyH.nil)
          go_simp
          try rw [hwr]
          refine (HTA.out _ hHeld.1 _).mono ?_
          rintro e w5 ⟨rfl, q6⟩
          have QV := Lib.hid (hHeld.1.transNo q6)
          go_wp2_with fail
          clear hHeld
          refine hK.out _ _ (⟨QV.out, (HC3.out _ (QV.out)).2.2.2.2.1, (HC3.out _ (QV.out)).2.2.2.2.2.2.2.2, (HP0.out _ (QV.out)).1, HEE.out _ (QV.out)⟩) (fun hHeld => ?_)
          clear hK K QV
          try simp only [Act.put, za, zb, zc, zd, ze, zf]
          refine tkY 21 (v := ?_) rfl ?_ ?_
          rotate_left
          · (intro w hSw; (try dsimp only at hSw); go_simp) <;> with_reducible rfl
          simp only [Act.put, za, zb, zc, zd, ze, zf]
          refine tkY 22 (v := ?_) rfl ?_ ?_
          rotate_left
          · (intro w hSw; (try dsimp only at hSw); go_simp) <;> with_reducible rfl
          simp only [Act.put, za, zb, zc, zd, ze, zf]
          refine wpAnyH_done (by kernel_rfl) ?_ _
          have K2 := Lib.hid hHeld.1
          clear hHeld
          go_wp2_with fail
          go_roundw
          case rel => exact ⟨k + 1, by go_num, HMN.out k ⟨xt, xe⟩ HMA.out HX.out HE.out, K2.out⟩
          case measure => simp [intOf]; omega
        · have heq : (TA ((i : Int) + (k : Int)) == xt) = false := by simpa using he
          have hst := HMS.out k ⟨xt, xe⟩ HMA.out HX.out he
          clear he
          by_cases hcp : i + k < r.commit
          · have hc1 : decide (i + k < r.commit) = true := by simpa using hcp
            have hc2 : decide ((i : Int) + (k : Int) < (r.commit : Int)) = true := by simp; omega
            have hov := Q1.out k hst hlt hcp
            have HST := Lib.hid hst
            have HOV := Lib.hid hov
            clear hst hov
            go_wp2_with fail
            refine wp_region_held_drew (S := fun V => Fr No W2 V ∧ V.cell? ⟨g, 4, none⟩ = some (.int .i64 (i : Int)) ∧ V.cell? ⟨g, 8, none⟩ = some (.slice (some ⟨b, off, none⟩) es.length c) ∧ V.cell? ⟨p, 0, none⟩ = some (.pointer (some ⟨j, 0, none⟩)) ∧ V.cell? ⟨b, off + k * 10, none⟩ = some (.int .i64 xt)) (by kernel_rfl) (⟨HF.out.drew, (HC3.out _ (HF.out.drew)).2.2.2.2.1, (HC3.out _ (HF.out.drew)).2.2.2.2.2.2.2.2, (HP0.out _ (HF.out.drew)).1, HEE.out _ (HF.out.drew)⟩) (fun hHeld => ?_)
            refine tkY 0 (v := ?_) rfl ?_ ?_
            rotate_left
            · (intro w hSw; (try dsimp only at hSw); go_simp) <;> with_reducible rfl
            simp only [Act.put, za, zb, zc, zd, ze]
            refine tkY 1 (v := ?_) rfl ?_ ?_
            rotate_left
            · (intro w hSw; (try dsimp only at hSw); go_simp) <;> with_reducible rfl
            simp only [Act.put, za, zb, zc, zd, ze, zf]
            refine tkY 2 (v := ?_) rfl ?_ ?_
            rotate_left
            · (intro w hSw; (try dsimp only at hSw); go_simp) <;> with_reducible rfl
            simp only [Act.put, za, zb, zc, zd, ze, zf]
            refine tkY 3 (v := ?_) rfl ?_ ?_
            rotate_left
            · (intro w hSw; (try dsimp only at hSw); go_simp) <;> with_reducible rfl
            simp only [Act.put, za, zb, zc, zd, ze, zf]
            refine tkY 4 (v := ?_) rfl ?_ ?_
            rotate_left
            · (intro w hSw; (try dsimp only at hSw); go_simp) <;> with_reducible rfl
            simp only [Act.put, za, zb, zc, zd, ze, zf]
            refine tkY 5 (v := ?_) rfl ?_ ?_
            rotate_left
            · (intro w hSw; (try dsimp only at hSw); go_simp) <;> with_reducible rfl
            simp only [Act.put, za, zb, zc, zd, ze, zf]
            refine tkY 6 (v := ?_) rfl ?_ ?_
            rotate_left
            · (intro w hSw; (try dsimp only at hSw); go_simp) <;> with_reducible rfl
            simp only [Act.put, za, zb, zc, zd, ze, zf]
            refine tkY 7 (v := ?_) rfl ?_ ?_
            rotate_left
            · (intro w hSw; (try dsimp only at hSw); go_simp) <;> with_reducible rfl
            simp only [Act.put, za, zb, zc, zd, ze, zf]
            refine tkY 8 (v := ?_) rfl ?_ ?_
            rotate_left
            · (intro w hSw; (try dsimp only at hSw); go_simp) <;> with_reducible rfl
            simp only [Act.put, za, zb, zc, zd, ze, zf]
            refine tkY 9 (v := ?_) rfl ?_ ?_
            rotate_left
            · (intro w hSw; (try dsimp only at hSw); go_simp) <;> with_reducible rfl
            simp only [Act.put, za, zb, zc, zd, ze, zf]
            refine tkY 10 (v := ?_) rfl ?_ ?_
            rotate_left
            · (intro w hSw; (try dsimp only at hSw); go_simp) <;> with_reducible rfl
            simp only [Act.put, za, zb, zc, zd, ze, zf]
            refine tkY 11 (v := ?_) rfl ?_ ?_
            rotate_left
            · (intro w hSw; (try dsimp only at hSw); go_simp) <;> with_reducible rfl
            simp only [Act.put, za, zb, zc, zd, ze, zf]
            refine tkY 12 (v := ?_) rfl ?_ ?_
            rotate_left
            · (intro w hSw; (try dsimp only at hSw); go_simp) <;> with_reducible rfl
            simp only [Act.put, za, zb, zc, zd, ze, zf]
            refine tkY 13 (v := ?_) rfl ?_ ?_
            rotate_left
            · (intro w hSw; (try dsimp only at hSw); go_simp) <;> with_reducible rfl
            simp only [Act.put, za, zb, zc, zd, ze, zf]
            refine tkY 15 (v := ?_) rfl ?_ ?_
            rotate_left
            · (intro w hSw; (try dsimp only at hSw); go_simp) <;> with_reducible rfl
            simp only [Act.put, za, zb, zc, zd, ze, zf]
            refine tkY 16 (v := ?_) rfl ?_ ?_
            rotate_left
            · (intro w hSw; (try dsimp only at hSw); go_simp) <;> with_reducible rfl
            simp only [Act.put, za, zb, zc, zd, ze, zf]
            refine tkY 17 (v := ?_) rfl ?_ ?_
            rotate_left
            · (intro w hSw; (try dsimp only at hSw); go_simp) <;> with_reducible rfl
            simp only [Act.put, za, zb, zc, zd, ze, zf]
            refine tkY 18 (v := ?_) rfl ?_ ?_
            rotate_left
            · (intro w hSw; (try dsimp only at hSw); go_simp) <;> with_reducible rfl
            simp only [Act.put, za, zb, zc, zd, ze, zf]
            refine tkY 19 (v := ?_) rfl ?_ ?_
            rotate_left
            · (intro w hSw; (try dsimp only at hSw); go_simp) <;> with_reducible rfl
            simp only [Act.put, za, zb, zc, zd, ze, zf]
            refine tkY 20 (v := ?_) rfl ?_ ?_
            rotate_left
            · (intro w hSw; (try dsimp only at hSw); go_simp) <;> with_reducible rfl
            simp only [Act.put, za, zb, zc, zd, ze, zf]
            refine wpAnyH_ready (rs := [14]) (by kernel_rfl) (by simp) (AllReadyH.cons rfl (fun K hK => ?_) AllReadyH.nil)
            go_simp
            try rw [hwr]
            refine (HTA.out _ hHeld.1 _).mono ?_
            rintro e w5 ⟨rfl, q6⟩
            have QV := Lib.hid (hHeld.1.transNo q6)
            go_wp2_with fail
            clear hHeld
            refine hK.out _ _ (⟨QV.out, (HC3.out _ (QV.out)).2.2.2.2.1, (HC3.out _ (QV.out)).2.2.2.2.2.2.2.2, (HP0.out _ (QV.out)).1, HEE.out _ (QV.out)⟩) (fun hHeld => ?_)
            clear hK K QV
            try simp only [Act.put, za, zb, zc, zd, ze, zf]
            refine tkY 21 (v := ?_) rfl ?_ ?_
            rotate_left
            · (intro w hSw; (try dsimp only at hSw); go_simp) <;> with_reducible rfl
            simp only [Act.put, za, zb, zc, zd, ze, zf]
            refine tkY 22 (v := ?_) rfl ?_ ?_
            rotate_left
            · (intro w hSw; (try dsimp only at hSw); go_simp) <;> with_reducible rfl
            simp only [Act.put, za, zb, zc, zd, ze, zf]
            refine wpAnyH_done (by kernel_rfl) ?_ _
            have K2 := Lib.hid hHeld.1
            clear hHeld
            obtain ⟨c0, c1, c2, c3, c4, c5, c6, c7, c8⟩ := HC3.out _ K2.out
            obtain ⟨p0, p4, pf4⟩ := HP0.out _ K2.out
            clear hwr
            go_wp2_with fail
            go_ret
            rw [HOV.out]
            exact CallTo.mk' (HFIN.out _ _ _ (HSTILL.out _ K2.out)) (MsTo.none_ _)
          · have hc1 : decide (i + k < r.commit) = false := by simpa using hcp
            have hc2 : decide ((i : Int) + (k : Int) < (r.commit : Int)) = false := by simp; omega
            obtain ⟨hov, -, -, hC, htm⟩ := Q2.out k hst hlt hcp
            have hrp := fun V hf => HREP.out V hf b off k rfl hlt hst hcp
            simp only [Int.natCast_add, List.length_drop] at hrp
            have hsl := HSLICE.out b off k hlt
            have HST := Lib.hid hst
            have HOV := Lib.hid hov
            have HTM := Lib.hid htm
            have HRP := Lib.hid hrp
            have HC := Lib.hid hC
            clear hst hov htm hrp hC
            go_wp2_with fail
            refine wp_region_held_drew (S := fun V => Fr No W2 V ∧ V.cell? ⟨g, 4, none⟩ = some (.int .i64 (i : Int)) ∧ V.cell? ⟨g, 8, none⟩ = some (.slice (some ⟨b, off, none⟩) es.length c) ∧ V.cell? ⟨p, 0, none⟩ = some (.pointer (some ⟨j, 0, none⟩)) ∧ V.cell? ⟨b, off + k * 10, none⟩ = some (.int .i64 xt)) (by kernel_rfl) (⟨HF.out.drew, (HC3.out _ (HF.out.drew)).2.2.2.2.1, (HC3.out _ (HF.out.drew)).2.2.2.2.2.2.2.2, (HP0.out _ (HF.out.drew)).1, HEE.out _ (HF.out.drew)⟩) (fun hHeld => ?_)
            refine tkY 0 (v := ?_) rfl ?_ ?_
            rotate_left
            · (intro w hSw; (try dsimp only at hSw); go_simp) <;> with_reducible rfl
            simp only [Act.put, za, zb, zc, zd, ze]
            refine tkY 1 (v := ?_) rfl ?_ ?_
            rotate_left
            · (intro w hSw; (try dsimp only at hSw); go_simp) <;> with_reducible rfl
            simp only [Act.put, za, zb, zc, zd, ze, zf]
            refine tkY 2 (v := ?_) rfl ?_ ?_
            rotate_left
            · (intro w hSw; (try dsimp only at hSw); go_simp) <;> with_reducible rfl
            simp only [Act.put, za, zb, zc, zd, ze, zf]
            refine tkY 3 (v := ?_) rfl ?_ ?_
            rotate_left
            · (intro w hSw; (try dsimp only at hSw); go_simp) <;> with_reducible rfl
            simp only [Act.put, za, zb, zc, zd, ze, zf]
            refine tkY 4 (v := ?_) rfl ?_ ?_
            rotate_left
            · (intro w hSw; (try dsimp only at hSw); go_simp) <;> with_reducible rfl
            simp only [Act.put, za, zb, zc, zd, ze, zf]
            refine tkY 5 (v := ?_) rfl ?_ ?_
            rotate_left
            · (intro w hSw; (try dsimp only at hSw); go_simp) <;> with_reducible rfl
            simp only [Act.put, za, zb, zc, zd, ze, zf]
            refine tkY 6 (v := ?_) rfl ?_ ?_
            rotate_left
            · (intro w hSw; (try dsimp only at hSw); go_simp) <;> with_reducible rfl
            simp only [Act.put, za, zb, zc, zd, ze, zf]
            refine tkY 7 (v := ?_) rfl ?_ ?_
            rotate_left
            · (intro w hSw; (try dsimp only at hSw); go_simp) <;> with_reducible rfl
            simp only [Act.put, za, zb, zc, zd, ze, zf]
            refine tkY 8 (v := ?_) rfl ?_ ?_
            rotate_left
            · (intro w hSw; (try dsimp only at hSw); go_simp) <;> with_reducible rfl
            simp only [Act.put, za, zb, zc, zd, ze, zf]
            refine tkY 9 (v := ?_) rfl ?_ ?_
            rotate_left
            · (intro w hSw; (try dsimp only at hSw); go_simp) <;> with_reducible rfl
            simp only [Act.put, za, zb, zc, zd, ze, zf]
            refine tkY 10 (v := ?_) rfl ?_ ?_
            rotate_left
            · (intro w hSw; (try dsimp only at hSw); go_simp) <;> with_reducible rfl
            simp only [Act.put, za, zb, zc, zd, ze, zf]
            refine tkY 11 (v := ?_) rfl ?_ ?_
            rotate_left
            · (intro w hSw; (try dsimp only at hSw); go_simp) <;> with_reducible rfl
            simp only [Act.put, za, zb, zc, zd, ze, zf]
            refine tkY 12 (v := ?_) rfl ?_ ?_
            rotate_left
            · (intro w hSw; (try dsimp only at hSw); go_simp) <;> with_reducible rfl
            simp only [Act.put, za, zb, zc, zd, ze, zf]
            refine tkY 13 (v := ?_) rfl ?_ ?_
            rotate_left
            · (intro w hSw; (try dsimp only at hSw); go_simp) <;> with_reducible rfl
            simp only [Act.put, za, zb, zc, zd, ze, zf]
            refine tkY 15 (v := ?_) rfl ?_ ?_
            rotate_left
            · (intro w hSw; (try dsimp only at hSw); go_simp) <;> with_reducible rfl
            simp only [Act.put, za, zb, zc, zd, ze, zf]
            refine tkY 16 (v := ?_) rfl ?_ ?_
            rotate_left
            · (intro w hSw; (try dsimp only at hSw); go_simp) <;> with_reducible rfl
            simp only [Act.put, za, zb, zc, zd, ze, zf]
            refine tkY 17 (v := ?_) rfl ?_ ?_
            rotate_left
            · (intro w hSw; (try dsimp only at hSw); go_simp) <;> with_reducible rfl
            simp only [Act.put, za, zb, zc, zd, ze, zf]
            refine tkY 18 (v := ?_) rfl ?_ ?_
            rotate_left
            · (intro w hSw; (try dsimp only at hSw); go_simp) <;> with_reducible rfl
            simp only [Act.put, za, zb, zc, zd, ze, zf]
            refine tkY 19 (v := ?_) rfl ?_ ?_
            rotate_left
            · (intro w hSw; (try dsimp only at hSw); go_simp) <;> with_reducible rfl
            simp only [Act.put, za, zb, zc, zd, ze, zf]
            refine tkY 20 (v := ?_) rfl ?_ ?_
            rotate_left
            · (intro w hSw; (try dsimp only at hSw); go_simp) <;> with_reducible rfl
            simp only [Act.put, za, zb, zc, zd, ze, zf]
            refine wpAnyH_ready (rs := [14]) (by kernel_rfl) (by simp) (AllReadyH.cons rfl (fun K hK => ?_) AllReadyH.nil)
            go_simp
            try rw [hwr]
            refine (HTA.out _ hHeld.1 _).mono ?_
            rintro e w5 ⟨rfl, q6⟩
            have QV := Lib.hid (hHeld.1.transNo q6)
            go_wp2_with fail
            clear hHeld
            refine hK.out _ _ (⟨QV.out, (HC3.out _ (QV.out)).2.2.2.2.1, (HC3.out _ (QV.out)).2.2.2.2.2.2.2.2, (HP0.out _ (QV.out)).1, HEE.out _ (QV.out)⟩) (fun hHeld => ?_)
            clear hK K QV
            try simp only [Act.put, za, zb, zc, zd, ze, zf]
            refine tkY 21 (v := ?_) rfl ?_ ?_
            rotate_left
            · (intro w hSw; (try dsimp only at hSw); go_simp) <;> with_reducible rfl
            simp only [Act.put, za, zb, zc, zd, ze, zf]
            refine tkY 22 (v := ?_) rfl ?_ ?_
            rotate_left
            · (intro w hSw; (try dsimp only at hSw); go_simp) <;> with_reducible rfl
            simp only [Act.put, za, zb, zc, zd, ze, zf]
            refine wpAnyH_done (by kernel_rfl) ?_ _
            have K2 := Lib.hid hHeld.1
            clear hHeld
            obtain ⟨c0, c1, c2, c3, c4, c5, c6, c7, c8⟩ := HC3.out _ K2.out
            obtain ⟨p0, p4, pf4⟩ := HP0.out _ K2.out
            clear hwr
            go_wp2_with fail
            refine (HRP.out _ K2.out).mono ?_
            rintro e w7 ⟨rfl, t7⟩
            have HB3 := Lib.hid (HFAR.out _ _ _ _ K2.out t7)
            have TT := Lib.hid (RTo.after K2.out t7)
            clear t7 c0 c1 c2 c3 c4 c5 c6 c7 c8 p0 p4 pf4
            have hC := HC.out
            obtain ⟨G3, a3, i3, f3⟩ := TT.out
            have hb3 := HB3.out
            obtain ⟨c0, c1, c2, c3, c4, c5, c6, c7, c8⟩ := ms_cells hb3
            simp only at c0 c1 c2 c3 c4 c5 c6 c7 c8
            obtain ⟨p4, pf4⟩ : w7.cell? ⟨p, 4, none⟩ = some (.int .i64 (r.commit : Int)) ∧ w7.frozen? ⟨p, 4, none⟩ = false := (let ⟨_, _, _, _, _, h1, _⟩ := a3; ⟨h1.cell 4, h1.frozen 4⟩)
            have hset := (a3.commits rfl C hC).quiet ((Fr.refl No _).drew)
            have hb4 : Blk ((w7.setCell ⟨p, 4, none⟩ (.int .i64 (C : Int))).drew) g TMs _ := hb3.setFar hgp (.int .i64 (C : Int))
            have hrf := fun V r' N (h : RTo w7 G3 p r' N V) => HFIN.out r' N V (RTo.then f3 i3 h)
            clear a3 i3 f3 hb3 HB3 TT
            have HSET := Lib.hid hset
            have HB4 := Lib.hid hb4
            have HRF := Lib.hid hrf
            clear hset hb4 hrf
            go_wp2_with fail
            go_region
            all_goals
              rw [HCV.out]
              generalize (if (i : Int) + (es.length : Int) < (mc : Int) then (i : Int) + (es.length : Int) else (mc : Int)) = mn
              have hr9 := HRF.out _ _ _ HSET.out
              obtain ⟨c0, c1, c2, c3, c4, c5, c6, c7, c8⟩ := ms_cells HB4.out
              simp only at c0 c1 c2 c3 c4 c5 c6 c7 c8
              obtain ⟨G5, a5, i5, f5⟩ := HSET.out
              have hst := p_stored a5 mf ((i : Int) + (es.length : Int)) true
              rw [HANS.out { r with role := 1, js := replaceS r.js (i + k) (es.drop k), commit := C } rfl HTM.out] at hst
              clear a5 i5 f5 HSET HB4 HRF
              generalize (w7.setCell ⟨p, 4, none⟩ (.int .i64 (C : Int))).drew = w8 at *
              have HST := Lib.hid hst
              have HR9 := Lib.hid hr9
              clear hst hr9
              go_wp2_with fail
              refine HST.out.mono ?_
              rintro e w9 m9
              have M := Lib.hid m9
              obtain ⟨A5, c5', rfl, -, -⟩ := m9
              go_wp2_with fail
              go_ret
              rw [HOV.out]
              exact CallTo.mk' HR9.out M.out
      · obtain rfl : k = es.length := by omega
        have hd : decide (es.length < es.length) = false := by simp
        have hd2 : decide ((es.length : Int) < (es.length : Int)) = false := by simp
        obtain ⟨hov, hC⟩ := Q3.out (HMD.out HMA.out)
        have HOV := Lib.hid hov
        clear hov
        go_wp2_with fail
        refine wp_region_held_drew (S := fun V => Fr No W2 V ∧ V.cell? ⟨g, 8, none⟩ = some (.slice A es.length c)) (by kernel_rfl) (⟨HF.out.drew, (HC3.out _ (HF.out.drew)).2.2.2.2.2.2.2.2⟩) (fun hHeld => ?_)
        refine tkY 0 (v := ?_) rfl ?_ ?_
        rotate_left
        · (intro w hSw; (try dsimp only at hSw); go_simp) <;> with_reducible rfl
        simp only [Act.put, za, zb, zc, zd, ze]
        refine tkY 1 (v := ?_) rfl ?_ ?_
        rotate_left
        · (intro w hSw; (try dsimp only at hSw); go_simp) <;> with_reducible rfl
        simp only [Act.put, za, zb, zc, zd, ze, zf]
        refine tkY 2 (v := ?_) rfl ?_ ?_
        rotate_left
        · (intro w hSw; (try dsimp only at hSw); go_simp) <;> with_reducible rfl
        simp only [Act.put, za, zb, zc, zd, ze, zf]
        refine tkY 3 (v := ?_) rfl ?_ ?_
        rotate_left
        · (intro w hSw; (try dsimp only at hSw); go_simp) <;> with_reducible rfl
        simp only [Act.put, za, zb, zc, zd, ze, zf]
        refine tkY 4 (v := ?_) rfl ?_ ?_
        rotate_left
        · (intro w hSw; (try dsimp only at hSw); go_simp) <;> with_reducible rfl
        simp only [Act.put, za, zb, zc, zd, ze, zf]
        refine tkY 5 (v := ?_) rfl ?_ ?_
        rotate_left
        · (intro w hSw; (try dsimp only at hSw); go_simp) <;> with_reducible rfl
        simp only [Act.put, za, zb, zc, zd, ze, zf]
        refine tkN 6 rfl ?_
        simp only [Act.put, za, zb, zc, zd, ze, zf]
        refine tkN 7 rfl ?_
        simp only [Act.put, za, zb, zc, zd, ze, zf]
        refine tkN 8 rfl ?_
        simp only [Act.put, za, zb, zc, zd, ze, zf]
        refine tkN 9 rfl ?_
        simp only [Act.put, za, zb, zc, zd, ze, zf]
        refine tkN 10 rfl ?_
        simp only [Act.put, za, zb, zc, zd, ze, zf]
        refine tkN 11 rfl ?_
        simp only [Act.put, za, zb, zc, zd, ze, zf]
        refine tkN 12 rfl ?_
        simp only [Act.put, za, zb, zc, zd, ze, zf]
        refine tkN 13 rfl ?_
        simp only [Act.put, za, zb, zc, zd, ze, zf]
        refine tkN 14 rfl ?_
        simp only [Act.put, za, zb, zc, zd, ze, zf]
        refine tkN 15 rfl ?_
        simp only [Act.put, za, zb, zc, zd, ze, zf]
        refine tkN 16 rfl ?_
        simp only [Act.put, za, zb, zc, zd, ze, zf]
        refine tkN 17 rfl ?_
        simp only [Act.put, za, zb, zc, zd, ze, zf]
        refine tkN 18 rfl ?_
        simp only [Act.put, za, zb, zc, zd, ze, zf]
        refine tkN 19 rfl ?_
        simp only [Act.put, za, zb, zc, zd, ze, zf]
        refine tkN 20 rfl ?_
        simp only [Act.put, za, zb, zc, zd, ze, zf]
        refine tkN 21 rfl ?_
        simp only [Act.put, za, zb, zc, zd, ze, zf]
        refine tkY 22 (v := ?_) rfl ?_ ?_
        rotate_left
        · (intro w hSw; (try dsimp only at hSw); go_simp) <;> with_reducible rfl
        simp only [Act.put, za, zb, zc, zd, ze, zf]
        refine wpAnyH_done (by kernel_rfl) ?_ _
        have K2 := Lib.hid hHeld.1
        clear hHeld
        obtain ⟨c0, c1, c2, c3, c4, c5, c6, c7, c8⟩ := HC3.out _ K2.out
        obtain ⟨p0, p4, pf4⟩ := HP0.out _ K2.out
        clear c0 c1 c2 c3 c4 c5 c6 c7 c8 p0 p4 pf4
        generalize wr.drew = w7 at *
        have HB3 := Lib.hid (HBW.out _ K2.out)
        have TT := Lib.hid (HSTILL.out _ K2.out)
        obtain ⟨G3, a3, i3, f3⟩ := TT.out
        have hb3 := HB3.out
        obtain ⟨c0, c1, c2, c3, c4, c5, c6, c7, c8⟩ := ms_cells hb3
        simp only at c0 c1 c2 c3 c4 c5 c6 c7 c8
        obtain ⟨p4, pf4⟩ : w7.cell? ⟨p, 4, none⟩ = some (.int .i64 (r.commit : Int)) ∧ w7.frozen? ⟨p, 4, none⟩ = false := (let ⟨_, _, _, _, _, h1, _⟩ := a3; ⟨h1.cell 4, h1.frozen 4⟩)
        have hset := (a3.commits rfl C hC).quiet ((Fr.refl No _).drew)
        have hb4 : Blk ((w7.setCell ⟨p, 4, none⟩ (.int .i64 (C : Int))).drew) g TMs _ := hb3.setFar hgp (.int .i64 (C : Int))
        have hrf := fun V r' N (h : RTo w7 G3 p r' N V) => HFIN.out r' N V (RTo.then f3 i3 h)
        clear a3 i3 f3 hb3 HB3 TT
        have HSET := Lib.hid hset
        have HB4 := Lib.hid hb4
        have HRF := Lib.hid hrf
        clear hset hb4 hrf
        go_wp2_with fail
        go_region
        all_goals
          rw [HCV.out]
          generalize (if (i : Int) + (es.length : Int) < (mc : Int) then (i : Int) + (es.length : Int) else (mc : Int)) = mn
          have hr9 := HRF.out _ _ _ HSET.out
          obtain ⟨c0, c1, c2, c3, c4, c5, c6, c7, c8⟩ := ms_cells HB4.out
          simp only at c0 c1 c2 c3 c4 c5 c6 c7 c8
          obtain ⟨G5, a5, i5, f5⟩ := HSET.out
          have hst := p_stored a5 mf ((i : Int) + (es.length : Int)) true
          rw [HANS.out { r with role := 1, commit := C } rfl rfl] at hst
          clear a5 i5 f5 HSET HB4 HRF
          generalize (w7.setCell ⟨p, 4, none⟩ (.int .i64 (C : Int))).drew = w8 at *
          have HST := Lib.hid hst
          have HR9 := Lib.hid hr9
          clear hst hr9
          go_wp2_with fail
          refine HST.out.mono ?_
          rintro e w9 m9
          have M := Lib.hid m9
          obtain ⟨A5, c5', rfl, -, -⟩ := m9
          go_wp2_with fail
          go_ret
          rw [HOV.out]
          exact CallTo.mk' HR9.out M.out
end
end Go.Proofs.Ytokblidfekbeeaa
