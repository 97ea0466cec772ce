/-
  Several texts in one: JrnG, JrnM, JrnL, JrnV.
-/
import Derived.Test.YtoiiblopnchljaaJrnF
import Derived.Test.YtoiiblopnchljaaMake
import Derived.Test.YtoiiblopnchljaaActs
import Derived.Deep.RegionHeld3
/- The contracts of note and awake of the journal's statements. -/
namespace Go.Proofs.Ytoiiblopnchljaa
open Go.ChangeShapes Go.WideShapes Go.ChangeAt Go.RowKit
set_option linter.unusedVariables false

/-- A note with a number. -/
def noteE (m : Int) : En := ⟨16, 0, -1, -1, -1, 0, 0, 0, m⟩
theorem noteE_ok (m : Int) (h : 0 ≤ m) (h2 : m < 1000) : (noteE m).ok := by
  intro x hx
  simp only [noteE, En.l, List.mem_cons, List.not_mem_nil, or_false] at hx
  rcases hx with rfl | rfl | rfl | rfl | rfl | rfl | rfl | rfl | rfl <;> omega
theorem noteE_shape (m : Int) (h : 0 ≤ m) (h2 : m < 1000) : shapeB (noteE m) = true := by
  unfold shapeB fitsB noteE formN inB Sp.has inB
  simp
  omega

theorem note_any (n : Int) (w : World) :
    Calls Try.prog 22 #[.int .i64 n] w fun e w' => e = .returned (noteE (n % 1000)).v ∧ Fr No w w' := by
  have hm := fun W => mod_any n 1000 W (by decide) (by decide)
  unfold noteE En.v
  revert hm
  generalize n % 1000 = m
  intro hm
  have HM := Lib.hid hm
  clear hm
  go_enter Try.func22, Try.ntmps22
  go_wp2_with fail
  refine (HM.out _).mono ?_
  rintro e w1 ⟨rfl, rfl⟩
  go_wp2_with fail
  refine bodyPost_ret (v := .agg _) (by simp [results, Try.results22, go_sem]) rfl ⟨rfl, ?_⟩
  exact fr_alloc _ _

/-- A journal of the call's own has turned. -/
theorem JTo.own {w0 w1 w2 : World} {F : Nat → Prop} {j d : Nat} {xs : List UInt8} {k : Nat} {s : Js} (h : JTo w1 F j d xs k s w2) (hf : Fr No w0 w1) (hN : ∀ i, F i → w0.heap.size ≤ i) : ∃ F', JAt w2 F' j d xs k s ∧ (∀ i, F' i → w0.heap.size ≤ i) ∧ Fr No w0 w2 := by
  obtain ⟨F', g1, g2, g3⟩ := h
  exact ⟨F', g1, fun i hi => (g2 i hi).elim (fun h => hN i h) (fun h => Nat.le_trans hf.size h), hf.transNew g3 hN⟩
theorem crashN_zero (len k : Nat) (h : k ≤ len) : crashN len k 0 = k := by unfold crashN; omega

set_option maxRecDepth 100000 in
set_option maxHeartbeats 4000000 in
theorem awake8_any (w : World) :
    Calls Try.prog 12 #[] w fun e w' => e = .returned (.bool true) ∧ Fr No w w' := by
  have x1 : setTermX jsNew 3 1 = 0 := by decide
  have y1 : setTermS jsNew 3 1 = ⟨3, 1, []⟩ := by unfold setTermS; rw [if_pos x1]
  have sh : shapeB (noteE 7) = true := by decide
  have x2 : addX ⟨3, 1, []⟩ 3 (noteE 7) = 0 := by unfold addX; rw [sh]; decide
  have y2 : addS ⟨3, 1, []⟩ 3 (noteE 7) = ⟨3, 1, [⟨3, noteE 7⟩]⟩ := by unfold addS; rw [if_pos x2]; rfl
  have x3 : setTermX ⟨3, 1, [⟨3, noteE 7⟩]⟩ 3 2 = 20 := by unfold setTermX; decide
  have y3 : setTermS ⟨3, 1, [⟨3, noteE 7⟩]⟩ 3 2 = ⟨3, 1, [⟨3, noteE 7⟩]⟩ := setTermS_no (by rw [x3]; decide)
  have hq1 : ∀ x ∈ [(1 : Int), 3, 1], -9223372036854775808 ≤ x ∧ x ≤ 9223372036854775807 := by decide
  have l1 := intsF_len _ hq1
  have p1 := putN_lenP 8 (recT 3 1) (by unfold recT; simp at l1; omega)
  have hq2 : ∀ x ∈ [(2 : Int), 3], -9223372036854775808 ≤ x ∧ x ≤ 9223372036854775807 := by decide
  have l2 := intsF_len _ hq2
  have l3 := enB_len (noteE 7) (noteE_ok 7 (by decide) (by decide))
  have p2 := putN_lenP 8 (recE 3 (noteE 7)) (by unfold recE; rw [List.length_append]; simp at l2; omega)
  have g1 : Good ([] ++ putN 8 (recT 3 1)) ⟨3, 1, []⟩ ([] ++ [recT 3 1]) := Good.snoc Good.new (recT 3 1) (by unfold recT; simp at l1; omega) (by rw [replay_term _ _ _ x1, y1])
  have hplay := g1.play
  rw [List.nil_append] at hplay
  have hr1 : (recT 3 1).length ≤ 30 := by unfold recT; simpa using l1
  have hr2 : (recE 3 (noteE 7)).length ≤ 110 := by unfold recE; rw [List.length_append]; simp at l2; omega
  clear sh hq1 hq2 l1 l2 l3 g1
  generalize hP1 : putN 8 (recT 3 1) = P1 at *
  generalize hP2 : putN 8 (recE 3 (noteE 7)) = P2 at *
  have HP1 := Lib.hid hP1
  have HP2 := Lib.hid hP2
  clear hP1 hP2
  have X1 := Lib.hid x1
  have Y1 := Lib.hid y1
  have X2 := Lib.hid x2
  have Y2 := Lib.hid y2
  have X3 := Lib.hid x3
  have Y3 := Lib.hid y3
  have HPLAY := Lib.hid hplay
  clear x1 y1 x2 y2 x3 y3 hplay
  go_enter Try.func12, Try.ntmps12
  go_wp2_with fail
  refine (j_new _).mono ?_
  rintro e w1 ⟨j, d, F, rfl, a1, n1, f1⟩
  have A1 := Lib.hid a1
  have N1 := Lib.hid n1
  have F1 := Lib.hid f1
  clear a1 n1 f1
  go_wp2_with fail
  refine (j_SetTerm A1.out 3 1 (by simp)).mono ?_
  rintro e w2 ⟨rfl, j2⟩
  rw [X1.out, if_pos rfl, Y1.out, HP1.out, List.nil_append] at j2
  obtain ⟨F2, a2, n2, f2⟩ := j2.own F1.out N1.out
  rw [X1.out]
  clear j2 A1 N1 F1
  have A2 := Lib.hid a2
  have N2 := Lib.hid n2
  have F2 := Lib.hid f2
  clear a2 n2 f2
  go_wp2_with fail
  refine (j_sync A2.out).mono ?_
  rintro e w3 ⟨rfl, j3⟩
  obtain ⟨F3, a3, n3, f3⟩ := j3.own F2.out N2.out
  clear j3 A2 N2 F2
  have A3 := Lib.hid a3
  have N3 := Lib.hid n3
  have F3 := Lib.hid f3
  clear a3 n3 f3
  go_wp2_with fail
  refine (note_any 7 _).mono ?_
  rintro e w4 ⟨rfl, f4⟩
  have F4 := Lib.hid (F3.out.transNo f4)
  have A4 := Lib.hid (A3.out.frNo f4)
  clear f4 A3 F3
  go_wp2_with fail
  refine (j_Append A4.out (by simp) 3 (noteE 7) (noteE_ok 7 (by decide) (by decide)) (by simp; omega)).mono ?_
  rintro e w5 ⟨rfl, j5⟩
  rw [X2.out, if_pos rfl, Y2.out, HP2.out] at j5
  obtain ⟨F5, a5, n5, f5⟩ := j5.own F4.out N3.out
  rw [X2.out]
  clear j5 A4 N3 F4
  have A5 := Lib.hid a5
  have N5 := Lib.hid n5
  have F5 := Lib.hid f5
  clear a5 n5 f5
  go_wp2_with fail
  refine (j_SetTerm A5.out 3 2 (by simp; omega)).mono ?_
  rintro e w6 ⟨rfl, j6⟩
  rw [X3.out, if_neg (by decide), Y3.out] at j6
  obtain ⟨F6, a6, n6, f6⟩ := j6.own F5.out N5.out
  rw [X3.out]
  clear j6 A5 N5 F5
  have A6 := Lib.hid a6
  have N6 := Lib.hid n6
  have F6 := Lib.hid f6
  clear a6 n6 f6
  go_wp2_with fail
  refine (j_len A6.out).mono ?_
  rintro e w7 ⟨rfl, rfl⟩
  simp only [List.length_cons, List.length_nil]
  go_wp2_with fail
  refine (j_crash A6.out 0).mono ?_
  rintro e w8 ⟨rfl, j8⟩
  rw [crashN_zero _ _ (by simp), List.take_left' rfl, HPLAY.out] at j8
  simp only at j8
  obtain ⟨F8, a8, n8, f8⟩ := j8.own F6.out N6.out
  clear j8 A6 N6 F6
  have A8 := Lib.hid a8
  have N8 := Lib.hid n8
  have F8 := Lib.hid f8
  clear a8 n8 f8
  go_wp2_with fail
  refine (j_term A8.out).mono ?_
  rintro e w9 ⟨rfl, rfl⟩
  go_wp2_with fail
  refine (j_vote A8.out).mono ?_
  rintro e w9 ⟨rfl, rfl⟩
  go_wp2_with fail
  refine (j_len A8.out).mono ?_
  rintro e w9 ⟨rfl, rfl⟩
  simp only [List.length_nil]
  go_wp2_with fail
  go_ret
  exact ⟨ret_bool rfl, F8.out⟩
end Go.Proofs.Ytoiiblopnchljaa
/- Journals opened from bytes, and copies of journals. -/
namespace Go.Proofs.Ytoiiblopnchljaa
open Go.ChangeShapes Go.WideShapes Go.ChangeAt Go.RowKit
set_option linter.unusedVariables false

theorem crashN_self (n : Nat) (keep : Int) : crashN n n keep = n := by unfold crashN; omega
set_option maxHeartbeats 1000000 in
theorem j_open (A : Option Addr) (m c : Nat) (r : List UInt8) (w : World) (B : Nat) (hA : A = none → m = 0) (hr : Rd w B A (r.map bv)) (hm : r.length = m) (hB : B ≤ w.heap.size) (hsz : m ≤ 140737488355328) :
    Calls Try.prog 31 #[.slice A m c] w fun e w' => ∃ j d F, e = .returned (.pointer (some ⟨j, 0, none⟩)) ∧ JAt w' F j d (r.take (playJ r).1) (min r.length (playJ r).1) (playJ r).2 ∧ (∀ i, F i → w.heap.size ≤ i) ∧ Fr No w w' := by
  have hrd := fun V (hf : Fr No w V) => hr.frNo hf hB
  clear hr
  have HRD := Lib.hid hrd
  clear hrd
  go_enter Try.func31, Try.ntmps31
  go_wp2_with fail
  refine (j_new w).mono ?_
  rintro e w1 ⟨j, d, F, rfl, a1, n1, f1⟩
  obtain ⟨A1, c1, Fd, h1, h2, h3, h4, h5, h6, h7, h8, d0, d1, d2, d3, hn⟩ := a1.open_
  have hfin := fun V' (hd : DiskTo w1 Fd d r 0 V') => JTo.own (JAt.disk h1 h2 h3 h5 h6 h7 h8 hd) f1 n1
  have hap := disk_append w1 Fd d [] 0 h4 A m c r B hA (HRD.out _ f1) hm (by simpa using hsz)
  rw [List.nil_append] at hap
  clear a1 h1 h2 h3 h4 h5 h6 h7 h8 hn d1 d2 d3 n1 f1
  have HFIN := Lib.hid hfin
  have HAP := Lib.hid hap
  clear hfin hap
  go_wp2_with fail
  refine HAP.out.mono ?_
  rintro e w2 ⟨rfl, t2⟩
  obtain ⟨F2, a2, n2, f2⟩ := HFIN.out _ t2
  clear t2 HFIN HAP d0
  obtain ⟨A1, c1, Fd, h1, h2, h3, h4, h5, h6, h7, h8, d0, d1, d2, d3, hn⟩ := a2.open_
  have hfin := fun V' (hd : DiskTo w2 Fd d r r.length V') => JTo.own (JAt.disk h1 h2 h3 h5 h6 h7 h8 hd) f2 n2
  have hsy := disk_sync w2 Fd d r 0 h4
  clear a2 h1 h2 h3 h4 h5 h6 h7 h8 hn d1 d2 d3 n2 f2
  have HFIN := Lib.hid hfin
  have HSY := Lib.hid hsy
  clear hfin hsy
  go_wp2_with fail
  refine HSY.out.mono ?_
  rintro e w3 ⟨rfl, t3⟩
  obtain ⟨F3, a3, n3, f3⟩ := HFIN.out _ t3
  have hcr := j_crash a3 0
  rw [crashN_self, List.take_length] at hcr
  have hfin2 := fun V xs m s (h : JTo w3 F3 j d xs m s V) => h.own f3 n3
  clear t3 HFIN HSY d0 a3 n3 f3
  have HCR := Lib.hid hcr
  have HFIN2 := Lib.hid hfin2
  clear hcr hfin2
  go_wp2_with fail
  refine HCR.out.mono ?_
  rintro e w4 ⟨rfl, t4⟩
  obtain ⟨G4, a4, n4, f4⟩ := HFIN2.out _ _ _ _ t4
  clear t4
  have A4 := Lib.hid a4
  have N4 := Lib.hid n4
  have F4 := Lib.hid f4
  clear a4 n4 f4
  go_wp2_with fail
  go_ret
  exact ⟨j, d, G4, rfl, A4.out, N4.out, F4.out⟩

theorem logV_one (l : List Lg) : ∀ u ∈ logV l, u.oneCell' = true := by
  intro u hu
  simp only [logV, List.mem_flatMap] at hu
  obtain ⟨x, -, hx⟩ := hu
  simp only [Lg.cells, List.mem_cons, List.not_mem_nil, or_false] at hx
  rcases hx with rfl | rfl | rfl | rfl | rfl | rfl | rfl | rfl | rfl | rfl <;> rfl
/-- A new journal over a new disk and a new log. -/
theorem jat_made {w w2 : World} {d : Nat} {xs : List UInt8} {k : Nat} {s : Js} {v : Value} {G : Nat → Prop} (hf : Fr No w w2)
    (hv : OwnN w2 (fun i => w.heap.size ≤ i) TLg 10 v s.log.length (logV s.log)) (hd : DiskAt w2 G d xs k) (hG : ∀ i, G i → w.heap.size ≤ i) (hvg : ∀ g, v.ownBlock = some g → ¬ G g) :
    ∃ j' d' F', Ending.returned (.pointer (some ⟨w2.heap.size, 0, none⟩)) = Ending.returned (.pointer (some ⟨j', 0, none⟩)) ∧ JAt (w2.alloc (.cells #[.pointer (some ⟨d, 0, none⟩), .int .i64 s.term, .int .i64 s.vote, v] TJ)) F' j' d' xs k s ∧ (∀ i, F' i → w.heap.size ≤ i) ∧ Fr No w (w2.alloc (.cells #[.pointer (some ⟨d, 0, none⟩), .int .i64 s.term, .int .i64 s.vote, v] TJ)) := by
  have hs := hf.size
  refine ⟨w2.heap.size, d, fun i => w.heap.size ≤ i ∧ i < w2.heap.size + 1, rfl, ⟨v, G, Blk.new _ _ _, ⟨hs, by omega⟩, ?_, hd.frNo (fr_alloc _ _), ?_, ?_, hvg, ?_⟩, fun i hi => hi.1, hf.alloc _⟩
  · refine ⟨(hv.frNo (fr_alloc _ _)).1, fun g hg => ⟨hv.2 g hg, ?_⟩⟩
    have := hv.lt g hg
    omega
  · intro i hi
    have := hd.lt i hi
    exact ⟨hG i hi, by omega⟩
  · intro h
    have := hd.lt _ h
    omega
  · intro i hi
    simp
    omega
set_option maxHeartbeats 2000000 in
theorem j_copy {w : World} {F : Nat → Prop} {j d : Nat} {xs : List UInt8} {k : Nat} {s : Js} (h : JAt w F j d xs k s) (hl : s.log.length ≤ 4096) :
    Calls Try.prog 35 #[.pointer (some ⟨j, 0, none⟩)] w fun e w' => ∃ j' d' F', e = .returned (.pointer (some ⟨j', 0, none⟩)) ∧ JAt w' F' j' d' xs k s ∧ (∀ i, F' i → w.heap.size ≤ i) ∧ Fr No w w' := by
  obtain ⟨A, c, Fd, h1, h2, h3, h4, h5, h6, h7, h8, d0, d1, d2, d3, hn⟩ := h.open_
  obtain ⟨i0, hi0, hz0, hz1, hz2⟩ := info_parts log_info
  have hjl := h1.lt
  have hrd := h3.rd
  have hone := logV_one s.log
  have hll := logV_len s.log
  have hka : ∀ W : World, Fr No w W → W.cell? ⟨j, 0, none⟩ = some (.pointer (some ⟨d, 0, none⟩)) ∧ W.cell? ⟨j, 1, none⟩ = some (.int .i64 s.term) ∧ W.cell? ⟨j, 2, none⟩ = some (.int .i64 s.vote) := fun W hW => let g := h1.fr hW (fun h => h); ⟨g.cell 0, g.cell 1, g.cell 2⟩
  have hcp := fun W (hf : Fr No w W) => disk_copy W Fd d xs k (h4.frNo hf)
  clear h h1 h2 h3 h4 h5 h6 h7 h8 d1 d2
  have HRD := Lib.hid hrd
  have HKA := Lib.hid hka
  have HCP := Lib.hid hcp
  have HONE := Lib.hid hone
  have HLL := Lib.hid hll
  clear hrd hka hcp hone hll
  go_enter Try.func35, Try.ntmps35
  go_wp2_with (at_builtin; refine wpList_append_rdN _ rfl _ (.tmp 7) _ rfl 0 TLg i0 _ 10 80 Try.underlying24 hi0 hz0 hz1 hz2 rfl (by decide) (.slice none 0 0) 0 [] rfl (World.ownsRow_nil _ _ _ _) w.heap.size A s.log.length c (logV s.log) rfl ?c1 ?c2 ?c3 HONE.out ?c4 ?c5 ?c6 ?_)
  case c1 => exact hn
  case c2 => exact HRD.out
  case c3 => exact HLL.out
  case c4 => unfold maxLen; omega
  case c5 => omega
  case c6 => exact Nat.zero_le _
  intro v1 w1 happ
  obtain ⟨o1, f1⟩ := (OwnN.nil w No TLg 10).appended happ
  rw [List.nil_append, Nat.zero_add] at o1
  obtain ⟨A1, c1, rfl, hn1⟩ := o1.form
  clear happ hn1
  have O1 := Lib.hid o1
  have hf0 := HKA.out _ f1
  obtain ⟨e0, e1, e2⟩ := hf0
  clear o1 d0 d3
  go_wp2_with fail
  go_region_held3 (fun V => V.cell? ⟨j, 0, none⟩ = some (.pointer (some ⟨d, 0, none⟩)) ∧ V.cell? ⟨j, 1, none⟩ = some (.int .i64 s.term) ∧ V.cell? ⟨j, 2, none⟩ = some (.int .i64 s.vote)) (exact HKA.out _ (by repeat (first | assumption | exact Fr.refl _ _ | refine Fr.alloc ?_ _ | refine Fr.drew ?_ | refine Fr.drewN ?_ _))) (first
    | (go_at_call 65; refine (HCP.out _ (by repeat (first | assumption | exact Fr.refl _ _ | refine Fr.alloc ?_ _ | refine Fr.drew ?_ | refine Fr.drewN ?_ _))).mono ?_; rintro e w2 ⟨d2, G2, rfl, a2, n2, f2⟩; have Q2 : Fr No w w2 := Fr.transNo (by repeat (first | assumption | exact Fr.refl _ _ | refine Fr.alloc ?_ _ | refine Fr.drew ?_ | refine Fr.drewN ?_ _)) f2; have D2 := Lib.hid a2; have N2 := Lib.hid n2; clear a2 n2))
  all_goals
    have h1s := f1.size
    have O2 := Lib.hid (OwnN.mono (G := fun i => w.heap.size ≤ i) (O1.out.frNo ((Fr.refl No w1).drew.transNo f2)) fun i hi => by rcases hi with hi | hi; exact hi.elim; omega)
    have hd : ∀ g, Value.ownBlock (.slice A1 s.log.length c1) = some g → ¬ G2 g := fun g hg hh => by have h1 := O1.out.lt g hg; have h2 := N2.out g hh; simp at h2; omega
    have N3 : ∀ i, G2 i → w.heap.size ≤ i := fun i hi => by have h2 := N2.out i hi; simp at h2; omega
    have HD := Lib.hid hd
    clear hd
    clear O1
    go_wp2_with fail
    go_ret
    exact jat_made Q2 O2.out D2.out N3 HD.out
end Go.Proofs.Ytoiiblopnchljaa
/- Journals whose bytes are the records of what they remember: the calls, without the bytes. -/
namespace Go.Proofs.Ytoiiblopnchljaa
open Go.ChangeShapes Go.WideShapes Go.ChangeAt Go.RowKit
set_option linter.unusedVariables false

/-- The journal j remembers s, and its disk has the records of it, in n bytes at most; y: all of it is synced. -/
def JG (y : Bool) (w : World) (F : Nat → Prop) (j : Nat) (s : Js) (n : Nat) : Prop :=
  ∃ d xs k rs, JAt w F j d xs k s ∧ Good xs s rs ∧ s.log.length ≤ 4096 ∧ xs.length ≤ n ∧ (y = true → k = xs.length)
def JGTo (y : Bool) (w : World) (F : Nat → Prop) (j : Nat) (s : Js) (n : Nat) (w' : World) : Prop :=
  ∃ F', JG y w' F' j s n ∧ (∀ i, F' i → F i ∨ w.heap.size ≤ i) ∧ Fr F w w'

section
variable {y : Bool} {w w' w1 : World} {F G : Nat → Prop} {j : Nat} {s s' : Js} {n m : Nat}
theorem JG.fr (h : JG y w F j s n) (hf : Fr G w w') (hd : ∀ i, F i → ¬ G i) : JG y w' F j s n := by
  obtain ⟨d, xs, k, rs, h1, h2⟩ := h
  exact ⟨d, xs, k, rs, h1.fr hf hd, h2⟩
theorem JG.frNo (h : JG y w F j s n) (hf : Fr No w w') : JG y w' F j s n := h.fr hf fun _ _ hi => hi
theorem JG.lt (h : JG y w F j s n) : ∀ i, F i → i < w.heap.size := by
  obtain ⟨d, xs, k, rs, h1, h2⟩ := h
  exact h1.lt
theorem JG.more (h : JG y w F j s n) (hn : n ≤ m) : JG y w F j s m := by
  obtain ⟨d, xs, k, rs, h1, h2, h3, h4, h5⟩ := h
  exact ⟨d, xs, k, rs, h1, h2, h3, Nat.le_trans h4 hn, h5⟩
theorem JG.few (h : JG y w F j s n) : s.log.length ≤ 4096 := by
  obtain ⟨d, xs, k, rs, h1, h2, h3, h4, h5⟩ := h
  exact h3
theorem JG.weak (h : JG y w F j s n) : JG false w F j s n := by
  obtain ⟨d, xs, k, rs, h1, h2, h3, h4, h5⟩ := h
  exact ⟨d, xs, k, rs, h1, h2, h3, h4, fun h => by cases h⟩
theorem JG.self (h : JG y w F j s n) : JGTo y w F j s n w := ⟨F, h, fun _ hi => .inl hi, Fr.refl _ _⟩
theorem JG.still (h : JG y w F j s n) (hf : Fr No w w') : JGTo y w F j s n w' := ⟨F, h.frNo hf, fun _ hi => .inl hi, hf.mono fun _ hi => hi.elim⟩
theorem JGTo.trans {y' : Bool} (h : JGTo y w F j s n w1) (h2 : ∀ F', JG y w1 F' j s n → JGTo y' w1 F' j s' m w') : JGTo y' w F j s' m w' := by
  obtain ⟨F1, h3, h4, h5⟩ := h
  obtain ⟨F2, g3, g4, g5⟩ := h2 F1 h3
  refine ⟨F2, g3, fun i hi => ?_, h5.trans g5 h4⟩
  rcases g4 i hi with h | h
  · exact h4 i h
  · exact .inr (Nat.le_trans h5.size h)
theorem JGTo.own {w0 : World} (h : JGTo y w1 F j s n w') (hf : Fr No w0 w1) (hN : ∀ i, F i → w0.heap.size ≤ i) : ∃ F', JG y w' F' j s n ∧ (∀ i, F' i → w0.heap.size ≤ i) ∧ Fr No w0 w' := by
  obtain ⟨F', g1, g2, g3⟩ := h
  exact ⟨F', g1, fun i hi => (g2 i hi).elim (fun h => hN i h) (fun h => Nat.le_trans hf.size h), hf.transNew g3 hN⟩
theorem JGTo.of {d : Nat} {xs : List UInt8} {k : Nat} {rs : List (List UInt8)} (h : JTo w F j d xs k s w') (hg : Good xs s rs) (hl : s.log.length ≤ 4096) (hn : xs.length ≤ n) (hy : y = true → k = xs.length) : JGTo y w F j s n w' := by
  obtain ⟨F', g1, g2, g3⟩ := h
  exact ⟨F', ⟨d, xs, k, rs, g1, hg, hl, hn, hy⟩, g2, g3⟩

theorem setTermS_log (s : Js) (t v : Int) : (setTermS s t v).log = s.log := by unfold setTermS; split <;> rfl
theorem recT_len {t v : Int} (h : setTermX s t v = 0) : (recT t v).length ≤ 30 := by
  have hb := setX_bd h
  have := intsF_len [1, t, v] (by
    intro x hx
    simp only [List.mem_cons, List.not_mem_nil, or_false] at hx
    rcases hx with rfl | rfl | rfl <;> omega)
  simpa [recT] using this
theorem recE_len {t : Int} {e : En} (he : e.ok) (h : addX s t e = 0) : (recE t e).length ≤ 110 := by
  have hb := addX_bd h
  have l2 := intsF_len [2, t] (by
    intro x hx
    simp only [List.mem_cons, List.not_mem_nil, or_false] at hx
    rcases hx with rfl | rfl <;> omega)
  have l3 := enB_len e he
  unfold recE
  rw [List.length_append]
  simp at l2
  omega
theorem recC_len {c : Int} (hl : s.log.length ≤ 4096) (h : cutX s c = 0) : (recC c).length ≤ 20 := by
  have hb := cutX_bd h
  have l2 := intsF_len [3, c] (by
    intro x hx
    simp only [List.mem_cons, List.not_mem_nil, or_false] at hx
    rcases hx with rfl | rfl <;> omega)
  simpa [recC] using l2
end

section
variable {y : Bool} {w w' w1 : World} {F G : Nat → Prop} {j : Nat} {s : Js} {n : Nat}
theorem g_new (w : World) :
    Calls Try.prog 17 #[] w fun e w' => ∃ j F, e = .returned (.pointer (some ⟨j, 0, none⟩)) ∧ JG true w' F j jsNew 0 ∧ (∀ i, F i → w.heap.size ≤ i) ∧ Fr No w w' := by
  refine (j_new w).mono ?_
  rintro e w' ⟨j, d, F, h1, h2, h3, h4⟩
  exact ⟨j, F, h1, ⟨d, [], 0, [], h2, Good.new, by decide, Nat.le_refl _, fun _ => rfl⟩, h3, h4⟩
theorem g_term (h : JG y w F j s n) : Calls Try.prog 13 #[.pointer (some ⟨j, 0, none⟩)] w fun e w' => e = .returned (.int .i64 s.term) ∧ w = w' := by
  obtain ⟨d, xs, k, rs, h1, h2⟩ := h
  exact j_term h1
theorem g_vote (h : JG y w F j s n) : Calls Try.prog 14 #[.pointer (some ⟨j, 0, none⟩)] w fun e w' => e = .returned (.int .i64 s.vote) ∧ w = w' := by
  obtain ⟨d, xs, k, rs, h1, h2⟩ := h
  exact j_vote h1
theorem g_len (h : JG y w F j s n) : Calls Try.prog 15 #[.pointer (some ⟨j, 0, none⟩)] w fun e w' => e = .returned (.int .i64 (s.log.length : Int)) ∧ w = w' := by
  obtain ⟨d, xs, k, rs, h1, h2⟩ := h
  exact j_len h1
theorem g_at (h : JG y w F j s n) (i : Int) : Calls Try.prog 16 #[.pointer (some ⟨j, 0, none⟩), .int .i64 i] w fun e w' => e = .returned (.tuple #[(atJ s.log i).1.v, .bool (atJ s.log i).2]) ∧ Fr No w w' := by
  obtain ⟨d, xs, k, rs, h1, h2⟩ := h
  exact j_at h1 i
theorem g_termAt (h : JG y w F j s n) (i : Int) : Calls Try.prog 23 #[.pointer (some ⟨j, 0, none⟩), .int .i64 i] w fun e w' => e = .returned (.int .i64 (termAt s.log i)) ∧ Fr No w w' := by
  obtain ⟨d, xs, k, rs, h1, h2⟩ := h
  exact j_termAt h1 i
theorem g_SetTerm (h : JG y w F j s n) (t v : Int) (hsz : n + 200 ≤ 140737488355328) :
    Calls Try.prog 18 #[.pointer (some ⟨j, 0, none⟩), .int .i64 t, .int .i64 v] w fun e w' => e = .returned (.int .i64 (setTermX s t v)) ∧ JGTo false w F j (setTermS s t v) (n + 48) w' := by
  obtain ⟨d, xs, k, rs, h1, h2, h3, h4, h5⟩ := h
  refine (j_SetTerm h1 t v (by omega)).mono ?_
  rintro e w' ⟨rfl, j2⟩
  refine ⟨rfl, ?_⟩
  by_cases h0 : setTermX s t v = 0
  · rw [if_pos h0] at j2
    have hr := recT_len h0
    have hp := putN_lenP 8 (recT t v) (by omega)
    exact JGTo.of j2 (h2.snoc (recT t v) (by omega) (replay_term s t v h0)) (by rw [setTermS_log]; exact h3) (by rw [List.length_append]; omega) (fun h => by cases h)
  · rw [if_neg h0, setTermS_no h0] at j2
    rw [setTermS_no h0]
    exact JGTo.of j2 h2 h3 (by omega) (fun h => by cases h)
theorem g_Append (h : JG y w F j s n) (t : Int) (e : En) (he : e.ok) (hsz : n + 200 ≤ 140737488355328) :
    Calls Try.prog 21 #[.pointer (some ⟨j, 0, none⟩), .int .i64 t, e.v] w fun r w' => r = .returned (.int .i64 (addX s t e)) ∧ JGTo false w F j (addS s t e) (n + 128) w' := by
  obtain ⟨d, xs, k, rs, h1, h2, h3, h4, h5⟩ := h
  refine (j_Append h1 h3 t e he (by omega)).mono ?_
  rintro r w' ⟨rfl, j2⟩
  refine ⟨rfl, ?_⟩
  by_cases h0 : addX s t e = 0
  · rw [if_pos h0] at j2
    have hr := recE_len he h0
    have hp := putN_lenP 8 (recE t e) (by omega)
    have hb := addX_bd h0
    exact JGTo.of j2 (h2.snoc (recE t e) (by omega) (replay_entry s t e he h0)) (by unfold addS; rw [if_pos h0]; simp only [List.length_append, List.length_singleton]; omega) (by rw [List.length_append]; omega) (fun h => by cases h)
  · rw [if_neg h0, addS_no h0] at j2
    rw [addS_no h0]
    exact JGTo.of j2 h2 h3 (by omega) (fun h => by cases h)
theorem g_Cut (h : JG y w F j s n) (c : Int) (hsz : n + 200 ≤ 140737488355328) :
    Calls Try.prog 36 #[.pointer (some ⟨j, 0, none⟩), .int .i64 c] w fun r w' => r = .returned (.int .i64 (cutX s c)) ∧ JGTo false w F j (cutS s c) (n + 38) w' := by
  obtain ⟨d, xs, k, rs, h1, h2, h3, h4, h5⟩ := h
  refine (j_Cut h1 c h3 (by omega)).mono ?_
  rintro r w' ⟨rfl, j2⟩
  refine ⟨rfl, ?_⟩
  by_cases h0 : cutX s c = 0
  · rw [if_pos h0] at j2
    have hr := recC_len h3 h0
    have hp := putN_lenP 8 (recC c) (by omega)
    exact JGTo.of j2 (h2.snoc (recC c) (by omega) (replay_cut s c h3 h0)) (by unfold cutS; rw [if_pos h0]; simp only [List.length_take]; omega) (by rw [List.length_append]; omega) (fun h => by cases h)
  · rw [if_neg h0, cutS_no h0] at j2
    rw [cutS_no h0]
    exact JGTo.of j2 h2 h3 (by omega) (fun h => by cases h)
theorem g_sync (h : JG y w F j s n) :
    Calls Try.prog 20 #[.pointer (some ⟨j, 0, none⟩)] w fun e w' => e = .returned (.tuple #[]) ∧ JGTo true w F j s n w' := by
  obtain ⟨d, xs, k, rs, h1, h2, h3, h4, h5⟩ := h
  refine (j_sync h1).mono ?_
  rintro r w' ⟨rfl, j2⟩
  exact ⟨rfl, JGTo.of j2 h2 h3 h4 (fun _ => rfl)⟩
/-- A journal that is synced is after a crash what it was. -/
theorem g_crash (h : JG true w F j s n) (keep : Int) :
    Calls Try.prog 11 #[.pointer (some ⟨j, 0, none⟩), .int .i64 keep] w fun e w' => e = .returned (.tuple #[]) ∧ JGTo true w F j s n w' := by
  obtain ⟨d, xs, k, rs, h1, h2, h3, h4, h5⟩ := h
  have hc : crashN xs.length k keep = xs.length := by rw [h5 rfl]; unfold crashN; omega
  refine (j_crash h1 keep).mono ?_
  rintro r w' ⟨rfl, j2⟩
  rw [hc, List.take_length, h2.play] at j2
  simp only [List.take_length, Nat.min_self] at j2
  exact ⟨rfl, JGTo.of j2 h2 h3 h4 (fun _ => rfl)⟩
/-- A crash of any journal leaves one. -/
theorem g_crash_any (h : JG y w F j s n) (keep : Int) :
    Calls Try.prog 11 #[.pointer (some ⟨j, 0, none⟩), .int .i64 keep] w fun e w' => e = .returned (.tuple #[]) ∧ ∃ s', JGTo true w F j s' n w' := by
  obtain ⟨d, xs, k, rs, h1, h2, h3, h4, h5⟩ := h
  have hk : k ≤ xs.length := by
    obtain ⟨_, _, _, _, _, _, h4, _⟩ := h1.open_
    obtain ⟨_, _, _, _, h9, _⟩ := h4
    exact h9
  have hc : crashN xs.length k keep ≤ xs.length := by unfold crashN; omega
  obtain ⟨i, s', g1, g2, g3, g4, g5, -⟩ := h2.crash _ hc
  refine (j_crash h1 keep).mono ?_
  rintro r w' ⟨rfl, j2⟩
  rw [g3] at j2
  have hl : ∀ (rs : List (List UInt8)) (a b : Js), foldJ a rs = some b → a.log.length ≤ 4096 → b.log.length ≤ 4096 := by
    intro rs
    induction rs with
    | nil => intro a b h hl; simp only [foldJ, Option.some.injEq] at h; subst h; exact hl
    | cons r rs ih =>
      intro a b h hl
      simp only [foldJ] at h
      cases hq : replayJ a r with
      | none => rw [hq] at h; cases h
      | some a1 =>
        rw [hq] at h
        exact ih a1 b h (replayJ_len hq hl)
  refine ⟨rfl, s', JGTo.of j2 g4 (hl _ _ _ g2 (by decide)) (by rw [List.length_take, List.length_take]; omega) fun _ => ?_⟩
  simp only [List.length_take]
  omega
end
end Go.Proofs.Ytoiiblopnchljaa
/- The walk of JournalVotes. -/
namespace Go.Proofs.Ytoiiblopnchljaa
open Go.ChangeShapes Go.WideShapes Go.ChangeAt Go.RowKit
set_option linter.unusedVariables false

theorem between_in (v low high : Int) (w : World) (h1 : low ≤ high) (h2 : -1152921504606846976 ≤ low) (h3 : high ≤ 1152921504606846976) :
    Calls Try.prog 19 #[.int .i64 v, .int .i64 low, .int .i64 high] w fun e w' => ∃ x, e = .returned (.int .i64 x) ∧ low ≤ x ∧ x ≤ high ∧ w = w' := by
  refine (between_any v low high w h1 h2 h3).mono ?_
  rintro e w' ⟨rfl, rfl⟩
  have b1 := Int.emod_nonneg v (b := high - low + 1) (by omega)
  have b2 := Int.emod_lt_of_pos v (b := high - low + 1) (by omega)
  exact ⟨_, rfl, by omega, by omega, rfl⟩

/-- What SetTerm does to the term and the vote. -/
structure VoteStep (s s' : Js) (X t : Int) : Prop where
  log : s'.log = s.log
  up : s.term ≤ s'.term
  one : s'.term = s.term → s.vote ≠ -1 → s'.vote = s.vote
  no : X ≠ 0 → s' = s
  most : s'.term ≤ s.term ∨ s'.term ≤ t
theorem voteStep (s : Js) (t v : Int) : VoteStep s (setTermS s t v) (setTermX s t v) t := by
  by_cases h : setTermX s t v = 0
  · have h2 := h
    unfold setTermX at h2
    split at h2
    · cases h2
    · split at h2
      · cases h2
      · rename_i h3 h4
        refine ⟨setTermS_log s t v, ?_, ?_, fun hh => absurd h hh, ?_⟩
        · unfold setTermS; rw [if_pos h]; simp only; omega
        · unfold setTermS
          rw [if_pos h]
          simp only
          intro h5 h6
          apply Classical.byContradiction
          intro h7
          exact h4 (.inr ⟨h5, h6, fun h8 => h7 h8.symm⟩)
        · unfold setTermS; rw [if_pos h]; simp only; omega
  · rw [setTermS_no h]
    exact ⟨rfl, Int.le_refl _, fun _ _ => rfl, fun _ => rfl, .inl (Int.le_refl _)⟩
theorem g_SetTermV {y : Bool} {w : World} {F : Nat → Prop} {j : Nat} {s : Js} {n : Nat} (h : JG y w F j s n) (t v : Int) (hsz : n + 200 ≤ 140737488355328) :
    Calls Try.prog 18 #[.pointer (some ⟨j, 0, none⟩), .int .i64 t, .int .i64 v] w fun e w' => ∃ s' X, e = .returned (.int .i64 X) ∧ VoteStep s s' X t ∧ JGTo false w F j s' (n + 48) w' := by
  refine (g_SetTerm h t v hsz).mono ?_
  rintro e w' ⟨rfl, h2⟩
  exact ⟨_, _, rfl, voteStep s t v, h2⟩

set_option maxRecDepth 100000 in
set_option maxHeartbeats 8000000 in
theorem JournalVotes_walk (v0 : Value) (w : World) (w0 : In_acts w v0) :
    Calls Try.prog 4 #[v0] w fun e w' => e = .returned (.bool true) ∧ Below w.heap.size w w' := by
  obtain ⟨A, len, cap, acts, rfl, hacts⟩ := w0
  have hM := hacts.most
  unfold maxLen at hM
  have HACTS := Lib.hid hacts
  clear hacts
  go_enter Try.func4, Try.ntmps4
  go_wp2_with fail
  refine (g_new _).mono ?_
  rintro e w1 ⟨j, F, rfl, a1, n1, f1⟩
  have A1 := Lib.hid a1
  have N1 := Lib.hid n1
  have F1 := Lib.hid f1
  clear a1 n1 f1
  go_wp2_with fail
  refine (awake8_any _).mono ?_
  rintro e w2 ⟨rfl, f2⟩
  have A2 := Lib.hid (A1.out.frNo f2)
  have F2 := Lib.hid (F1.out.transNo f2)
  clear f2 A1 F1
  by_cases h50 : len ≤ 50
  case neg =>
    have b1 : decide ((50 : Int) < (len : Int)) = true := by simp; omega
    go_wp2_with fail
    refine (awake8_any _).mono ?_
    rintro e w3 ⟨rfl, f3⟩
    go_wp2_with fail
    go_ret
    exact ⟨ret_bool rfl, (F2.out.transNo f3).belowNo⟩
  have b1 : decide ((50 : Int) < (len : Int)) = false := by simp; omega
  go_wp2_with fail
  go_loopw [4] (fun o wr => ∃ (m : Nat) (F : Nat → Prop) (s : Js), m ≤ len ∧ o = .int .i64 m ∧ JG true wr F j s (48 * m) ∧ (∀ i, F i → w.heap.size ≤ i) ∧ Fr No w wr ∧ 0 ≤ s.term ∧ s.term ≤ m) (fun o _ => len - (intOf o).toNat)
  case atStart => exact ⟨0, F, jsNew, Nat.zero_le _, rfl, A2.out, N1.out, F2.out, by decide, by decide⟩
  case round =>
    clear A2 F2 N1
    obtain ⟨m, G, s, hm, rfl, hj, hn, F0, ht0, ht1⟩ := hrel
    by_cases hlt : m < len
    case neg =>
      have b2 : decide ((m : Int) < (len : Int)) = false := by simp; omega
      have HJ := Lib.hid hj
      have HN := Lib.hid hn
      clear hj hn
      go_wp2_with fail
      go_ret
      exact ⟨rfl, F0.belowNo⟩
    have b2 : decide ((m : Int) < (len : Int)) = true := by simp; omega
    obtain ⟨b, off, a, rfl, ha, hok, hcells⟩ := HACTS.out.at2 hlt
    have hi0 : (0 : Int) ≤ (m : Int) := by omega
    have hi1 : (m : Int) < (len : Int) := by omega
    clear ha hok
    have hw1 : IntKind.i64.wrap (s.term - 1) = s.term - 1 := IntWalk.i64_in _ (by omega)
    have hw2 : IntKind.i64.wrap (s.term + 1) = s.term + 1 := IntWalk.i64_in _ (by omega)
    have HJ := Lib.hid hj
    have HN := Lib.hid hn
    have HCELLS := Lib.hid hcells
    clear hj hn hcells
    go_wp2_with fail
    refine (g_term HJ.out).mono ?_
    rintro e w3 ⟨rfl, rfl⟩
    go_wp2_with fail
    refine (g_vote HJ.out).mono ?_
    rintro e w3 ⟨rfl, rfl⟩
    go_wp2_with fail
    go_region_held3 (fun V => V.cell? ⟨b, off + m * 3, none⟩ = some (.int .i64 a.which) ∧ V.cell? ⟨b, off + m * 3 + 1, none⟩ = some (.int .i64 a.a) ∧ V.cell? ⟨b, off + m * 3 + 2, none⟩ = some (.int .i64 a.b)) (exact HCELLS.out _ (by repeat (first | assumption | exact Fr.refl _ _ | refine Fr.alloc ?_ _ | refine Fr.drew ?_ | refine Fr.drewN ?_ _))) (first
      | (go_at_call 19; refine (between_in _ _ _ _ (by omega) (by omega) (by omega)).mono ?_; rintro e w' ⟨x, rfl, -, hx2, rfl⟩; have HX2 := Lib.hid hx2; clear hx2)
      | (go_at_call 18; refine (g_SetTermV (HJ.out.frNo (by repeat (first | assumption | exact Fr.refl _ _ | refine Fr.alloc ?_ _ | refine Fr.drew ?_ | refine Fr.drewN ?_ _))) _ _ (by omega)).mono ?_; rintro e w5 ⟨s', X, rfl, hv, j5⟩; obtain ⟨F5, a5, n5, f5⟩ := j5.own (w0 := w) (by repeat (first | assumption | exact Fr.refl _ _ | refine Fr.alloc ?_ _ | refine Fr.drew ?_ | refine Fr.drewN ?_ _)) HN.out; have A5 := Lib.hid a5; have N5 := Lib.hid n5; clear j5 a5 n5))
    all_goals
      have hup := hv.up
      have hmost := hv.most
      have hx2 := (by assumption : Hid (_ ≤ s.term + 1)).out
      replace hmost : s'.term ≤ s.term + 1 := by omega
      clear hx2
      have hone := hv.one
      have hno := hv.no
      clear hv HJ HN
      go_upto_region 9 with fail
      go_cut [88] (fun x wx => x = .bool false ∧ wx = w5)
      case first =>
        have c1 : decide (s'.term < s.term) = false := by simp; omega
        by_cases hX : X = 0
        · have c5 : (X != 0) = false := by simp [hX]
          by_cases h1 : s'.term = s.term
          · have c2 : (s'.term == s.term) = true := by simp [h1]
            by_cases h2 : s.vote = -1
            · have c3 : (s.vote != -1) = false := by simp [h2]
              clear hup hmost hone hno hX h1 h2
              go_wp2_with (first | (go_at_call 13; refine (g_term A5.out).mono ?_; rintro e w' ⟨rfl, rfl⟩) | (go_at_call 14; refine (g_vote A5.out).mono ?_; rintro e w' ⟨rfl, rfl⟩))
              go_meet
              exact ⟨rfl, rfl⟩
            · have c3 : (s.vote != -1) = true := by simp [h2]
              have c4 : (s'.vote != s.vote) = false := by simp [hone h1 h2]
              clear hup hmost hone hno hX h1 h2
              go_wp2_with (first | (go_at_call 13; refine (g_term A5.out).mono ?_; rintro e w' ⟨rfl, rfl⟩) | (go_at_call 14; refine (g_vote A5.out).mono ?_; rintro e w' ⟨rfl, rfl⟩))
              go_meet
              exact ⟨rfl, rfl⟩
          · have c2 : (s'.term == s.term) = false := by simp [h1]
            clear hup hmost hone hno hX h1
            go_wp2_with (first | (go_at_call 13; refine (g_term A5.out).mono ?_; rintro e w' ⟨rfl, rfl⟩) | (go_at_call 14; refine (g_vote A5.out).mono ?_; rintro e w' ⟨rfl, rfl⟩))
            go_meet
            exact ⟨rfl, rfl⟩
        · have c5 : (X != 0) = true := by simp [hX]
          have c2 : (s'.term == s.term) = true := by simp [hno hX]
          have c4 : (s'.vote != s.vote) = false := by simp [hno hX]
          have c6 : (s'.term != s.term) = false := by simp [hno hX]
          by_cases h2 : s.vote = -1
          · have c3 : (s.vote != -1) = false := by simp [h2]
            clear hup hmost hone hno hX h2
            go_wp2_with (first | (go_at_call 13; refine (g_term A5.out).mono ?_; rintro e w' ⟨rfl, rfl⟩) | (go_at_call 14; refine (g_vote A5.out).mono ?_; rintro e w' ⟨rfl, rfl⟩))
            go_meet
            exact ⟨rfl, rfl⟩
          · have c3 : (s.vote != -1) = true := by simp [h2]
            clear hup hmost hone hno hX h2
            go_wp2_with (first | (go_at_call 13; refine (g_term A5.out).mono ?_; rintro e w' ⟨rfl, rfl⟩) | (go_at_call 14; refine (g_vote A5.out).mono ?_; rintro e w' ⟨rfl, rfl⟩))
            go_meet
            exact ⟨rfl, rfl⟩
      case rest =>
        obtain ⟨rfl, rfl⟩ := hcut
        clear hone hno
        go_wp2_with fail
        refine (g_sync A5.out).mono ?_
        rintro e w6 ⟨rfl, j6⟩
        obtain ⟨F6, a6, n6, f6⟩ := j6.own f5 N5.out
        clear j6
        have A6 := Lib.hid a6
        have N6 := Lib.hid n6
        clear a6 n6 A5 N5 f5
        go_wp2_with fail
        refine (g_term A6.out).mono ?_
        rintro e w7 ⟨rfl, rfl⟩
        go_wp2_with fail
        refine (g_vote A6.out).mono ?_
        rintro e w7 ⟨rfl, rfl⟩
        obtain ⟨c0, -, -⟩ := HCELLS.out _ f6
        cases hb : (a.which.tmod 3 == 0)
        · go_wp2_with fail
          refine (g_term A6.out).mono ?_
          rintro e w7 ⟨rfl, rfl⟩
          go_wp2_with fail
          refine (g_vote A6.out).mono ?_
          rintro e w7 ⟨rfl, rfl⟩
          go_wp2_with fail
          go_roundw
          case rel => exact ⟨m + 1, F6, s', by omega, by go_num, A6.out.more (by omega), N6.out, f6, by omega, by omega⟩
          case measure => simp [intOf]; omega
        · go_wp2_with fail
          refine (g_crash A6.out _).mono ?_
          rintro e w7 ⟨rfl, j7⟩
          obtain ⟨F7, a7, n7, f7⟩ := j7.own f6 N6.out
          clear j7
          have A7 := Lib.hid a7
          have N7 := Lib.hid n7
          clear a7 n7 A6 N6 c0 f6
          go_wp2_with fail
          refine (g_term A7.out).mono ?_
          rintro e w8 ⟨rfl, rfl⟩
          go_wp2_with fail
          refine (g_vote A7.out).mono ?_
          rintro e w8 ⟨rfl, rfl⟩
          go_wp2_with fail
          go_roundw
          case rel => exact ⟨m + 1, F7, s', by omega, by go_num, A7.out.more (by omega), N7.out, f7, by omega, by omega⟩
          case measure => simp [intOf]; omega
end Go.Proofs.Ytoiiblopnchljaa
