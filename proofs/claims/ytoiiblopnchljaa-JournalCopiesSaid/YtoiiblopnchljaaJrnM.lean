/-
  Journals opened from bytes, and copies of journals.
-/
import Derived.Test.YtoiiblopnchljaaJrnF
import Derived.Test.YtoiiblopnchljaaJrnG
namespace Go.Proofs.Ytoiiblopnchljaa
open Go.ChangeShapes Go.WideShapes Go.ChangeAt Go.RowKit
set_option linter.unusedVariables false

theorem crashN_self (n : Nat) (keep : Int) : crashN n n keep = n := by unfold crashN; omega
set_option maxHeartbeats 1000000 in
theorem j_open (A : Option Addr) (m c : Nat) (r : List UInt8) (w : World) (B : Nat) (hA : A = none → m = 0) (hr : Rd w B A (r.map bv)) (hm : r.length = m) (hB : B ≤ w.heap.size) (hsz : m ≤ 140737488355328) :
    Calls Try.prog 31 #[.slice A m c] w fun e w' => ∃ j d F, e = .returned (.pointer (some ⟨j, 0, none⟩)) ∧ JAt w' F j d (r.take (playJ r).1) (min r.length (playJ r).1) (playJ r).2 ∧ (∀ i, F i → w.heap.size ≤ i) ∧ Fr No w w' := by
  have hrd := fun V (hf : Fr No w V) => hr.frNo hf hB
  clear hr
  have HRD := Lib.hid hrd
  clear hrd
  go_enter Try.func31, Try.ntmps31
  go_wp2_with fail
  refine (j_new w).mono ?_
  rintro e w1 ⟨j, d, F, rfl, a1, n1, f1⟩
  obtain ⟨A1, c1, Fd, h1, h2, h3, h4, h5, h6, h7, h8, d0, d1, d2, d3, hn⟩ := a1.open_
  have hfin := fun V' (hd : DiskTo w1 Fd d r 0 V') => JTo.own (JAt.disk h1 h2 h3 h5 h6 h7 h8 hd) f1 n1
  have hap := disk_append w1 Fd d [] 0 h4 A m c r B hA (HRD.out _ f1) hm (by simpa using hsz)
  rw [List.nil_append] at hap
  clear a1 h1 h2 h3 h4 h5 h6 h7 h8 hn d1 d2 d3 n1 f1
  have HFIN := Lib.hid hfin
  have HAP := Lib.hid hap
  clear hfin hap
  go_wp2_with fail
  refine HAP.out.mono ?_
  rintro e w2 ⟨rfl, t2⟩
  obtain ⟨F2, a2, n2, f2⟩ := HFIN.out _ t2
  clear t2 HFIN HAP d0
  obtain ⟨A1, c1, Fd, h1, h2, h3, h4, h5, h6, h7, h8, d0, d1, d2, d3, hn⟩ := a2.open_
  have hfin := fun V' (hd : DiskTo w2 Fd d r r.length V') => JTo.own (JAt.disk h1 h2 h3 h5 h6 h7 h8 hd) f2 n2
  have hsy := disk_sync w2 Fd d r 0 h4
  clear a2 h1 h2 h3 h4 h5 h6 h7 h8 hn d1 d2 d3 n2 f2
  have HFIN := Lib.hid hfin
  have HSY := Lib.hid hsy
  clear hfin hsy
  go_wp2_with fail
  refine HSY.out.mono ?_
  rintro e w3 ⟨rfl, t3⟩
  obtain ⟨F3, a3, n3, f3⟩ := HFIN.out _ t3
  have hcr := j_crash a3 0
  rw [crashN_self, List.take_length] at hcr
  have hfin2 := fun V xs m s (h : JTo w3 F3 j d xs m s V) => h.own f3 n3
  clear t3 HFIN HSY d0 a3 n3 f3
  have HCR := Lib.hid hcr
  have HFIN2 := Lib.hid hfin2
  clear hcr hfin2
  go_wp2_with fail
  refine HCR.out.mono ?_
  rintro e w4 ⟨rfl, t4⟩
  obtain ⟨G4, a4, n4, f4⟩ := HFIN2.out _ _ _ _ t4
  clear t4
  have A4 := Lib.hid a4
  have N4 := Lib.hid n4
  have F4 := Lib.hid f4
  clear a4 n4 f4
  go_wp2_with fail
  go_ret
  exact ⟨j, d, G4, rfl, A4.out, N4.out, F4.out⟩

theorem logV_one (l : List Lg) : ∀ u ∈ logV l, u.oneCell' = true := by
  intro u hu
  simp only [logV, List.mem_flatMap] at hu
  obtain ⟨x, -, hx⟩ := hu
  simp only [Lg.cells, List.mem_cons, List.not_mem_nil, or_false] at hx
  rcases hx with rfl | rfl | rfl | rfl | rfl | rfl | rfl | rfl | rfl | rfl <;> rfl
/-- A new journal over a new disk and a new log. -/
theorem jat_made {w w2 : World} {d : Nat} {xs : List UInt8} {k : Nat} {s : Js} {v : Value} {G : Nat → Prop} (hf : Fr No w w2)
    (hv : OwnN w2 (fun i => w.heap.size ≤ i) TLg 10 v s.log.length (logV s.log)) (hd : DiskAt w2 G d xs k) (hG : ∀ i, G i → w.heap.size ≤ i) (hvg : ∀ g, v.ownBlock = some g → ¬ G g) :
    ∃ j' d' F', Ending.returned (.pointer (some ⟨w2.heap.size, 0, none⟩)) = Ending.returned (.pointer (some ⟨j', 0, none⟩)) ∧ JAt (w2.alloc (.cells #[.pointer (some ⟨d, 0, none⟩), .int .i64 s.term, .int .i64 s.vote, v] TJ)) F' j' d' xs k s ∧ (∀ i, F' i → w.heap.size ≤ i) ∧ Fr No w (w2.alloc (.cells #[.pointer (some ⟨d, 0, none⟩), .int .i64 s.term, .int .i64 s.vote, v] TJ)) := by
  have hs := hf.size
  refine ⟨w2.heap.size, d, fun i => w.heap.size ≤ i ∧ i < w2.heap.size + 1, rfl, ⟨v, G, Blk.new _ _ _, ⟨hs, by omega⟩, ?_, hd.frNo (fr_alloc _ _), ?_, ?_, hvg, ?_⟩, fun i hi => hi.1, hf.alloc _⟩
  · refine ⟨(hv.frNo (fr_alloc _ _)).1, fun g hg => ⟨hv.2 g hg, ?_⟩⟩
    have := hv.lt g hg
    omega
  · intro i hi
    have := hd.lt i hi
    exact ⟨hG i hi, by omega⟩
  · intro h
    have := hd.lt _ h
    omega
  · intro i hi
    simp
    omega
set_option maxHeartbeats 2000000 in
theorem j_copy {w : World} {F : Nat → Prop} {j d : Nat} {xs : List UInt8} {k : Nat} {s : Js} (h : JAt w F j d xs k s) (hl : s.log.length ≤ 4096) :
    Calls Try.prog 35 #[.pointer (some ⟨j, 0, none⟩)] w fun e w' => ∃ j' d' F', e = .returned (.pointer (some ⟨j', 0, none⟩)) ∧ JAt w' F' j' d' xs k s ∧ (∀ i, F' i → w.heap.size ≤ i) ∧ Fr No w w' := by
  obtain ⟨A, c, Fd, h1, h2, h3, h4, h5, h6, h7, h8, d0, d1, d2, d3, hn⟩ := h.open_
  obtain ⟨i0, hi0, hz0, hz1, hz2⟩ := info_parts log_info
  have hjl := h1.lt
  have hrd := h3.rd
  have hone := logV_one s.log
  have hll := logV_len s.log
  have hka : ∀ W : World, Fr No w W → W.cell? ⟨j, 0, none⟩ = some (.pointer (some ⟨d, 0, none⟩)) ∧ W.cell? ⟨j, 1, none⟩ = some (.int .i64 s.term) ∧ W.cell? ⟨j, 2, none⟩ = some (.int .i64 s.vote) := fun W hW => let g := h1.fr hW (fun h => h); ⟨g.cell 0, g.cell 1, g.cell 2⟩
  have hcp := fun W (hf : Fr No w W) => disk_copy W Fd d xs k (h4.frNo hf)
  clear h h1 h2 h3 h4 h5 h6 h7 h8 d1 d2
  have HRD := Lib.hid hrd
  have HKA := Lib.hid hka
  have HCP := Lib.hid hcp
  have HONE := Lib.hid hone
  have HLL := Lib.hid hll
  clear hrd hka hcp hone hll
  go_enter Try.func35, Try.ntmps35
  go_wp2_with (at_builtin; refine wpList_append_rdN _ rfl _ (.tmp 7) _ rfl 0 TLg i0 _ 10 80 Try.underlying24 hi0 hz0 hz1 hz2 rfl (by decide) (.slice none 0 0) 0 [] rfl (World.ownsRow_nil _ _ _ _) w.heap.size A s.log.length c (logV s.log) rfl ?c1 ?c2 ?c3 HONE.out ?c4 ?c5 ?c6 ?_)
  case c1 => exact hn
  case c2 => exact HRD.out
  case c3 => exact HLL.out
  case c4 => unfold maxLen; omega
  case c5 => omega
  case c6 => exact Nat.zero_le _
  intro v1 w1 happ
  obtain ⟨o1, f1⟩ := (OwnN.nil w No TLg 10).appended happ
  rw [List.nil_append, Nat.zero_add] at o1
  obtain ⟨A1, c1, rfl, hn1⟩ := o1.form
  clear happ hn1
  have O1 := Lib.hid o1
  have hf0 := HKA.out _ f1
  obtain ⟨e0, e1, e2⟩ := hf0
  clear o1 d0 d3
  go_wp2_with fail
  go_region_held3 (fun V => V.cell? ⟨j, 0, none⟩ = some (.pointer (some ⟨d, 0, none⟩)) ∧ V.cell? ⟨j, 1, none⟩ = some (.int .i64 s.term) ∧ V.cell? ⟨j, 2, none⟩ = some (.int .i64 s.vote)) (exact HKA.out _ (by repeat (first | assumption | exact Fr.refl _ _ | refine Fr.alloc ?_ _ | refine Fr.drew ?_ | refine Fr.drewN ?_ _))) (first
    | (go_at_call 65; refine (HCP.out _ (by repeat (first | assumption | exact Fr.refl _ _ | refine Fr.alloc ?_ _ | refine Fr.drew ?_ | refine Fr.drewN ?_ _))).mono ?_; rintro e w2 ⟨d2, G2, rfl, a2, n2, f2⟩; have Q2 : Fr No w w2 := Fr.transNo (by repeat (first | assumption | exact Fr.refl _ _ | refine Fr.alloc ?_ _ | refine Fr.drew ?_ | refine Fr.drewN ?_ _)) f2; have D2 := Lib.hid a2; have N2 := Lib.hid n2; clear a2 n2))
  all_goals
    have h1s := f1.size
    have O2 := Lib.hid (OwnN.mono (G := fun i => w.heap.size ≤ i) (O1.out.frNo ((Fr.refl No w1).drew.transNo f2)) fun i hi => by rcases hi with hi | hi; exact hi.elim; omega)
    have hd : ∀ g, Value.ownBlock (.slice A1 s.log.length c1) = some g → ¬ G2 g := fun g hg hh => by have h1 := O1.out.lt g hg; have h2 := N2.out g hh; simp at h2; omega
    have N3 : ∀ i, G2 i → w.heap.size ≤ i := fun i hi => by have h2 := N2.out i hi; simp at h2; omega
    have HD := Lib.hid hd
    clear hd
    clear O1
    go_wp2_with fail
    go_ret
    exact jat_made Q2 O2.out D2.out N3 HD.out
end Go.Proofs.Ytoiiblopnchljaa
