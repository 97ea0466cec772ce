/-
  The contract of grown.
-/
import Derived.Test.YtoiiblopnchljaaJrnH
namespace Go.Proofs.Ytoiiblopnchljaa
open Go.ChangeShapes Go.WideShapes Go.ChangeAt Go.RowKit
set_option linter.unusedVariables false

/-- A journal that was grown by notes, and the list of its entries. -/
structure GAt (w0 w : World) (j d : Nat) (v : Value) (q : List Int) (ns : Nat) (F : Nat → Prop) : Prop where
  jn : JAt w F j d (gxs q) (gxs (q.take ns)).length (gst q)
  out : OwnN w (fun i => w0.heap.size ≤ i) TLg 10 v q.length (logV (gl q))
  apart : ∀ g, v.ownBlock = some g → ¬ F g
  new : ∀ i, F i → w0.heap.size ≤ i
  fr : Fr No w0 w
  le : ns ≤ q.length

theorem GAt.frNo {w0 w w' : World} {j d : Nat} {v : Value} {q : List Int} {ns : Nat} {F : Nat → Prop} (h : GAt w0 w j d v q ns F) (hf : Fr No w w') : GAt w0 w' j d v q ns F :=
  ⟨h.jn.frNo hf, h.out.frNo hf, h.apart, h.new, h.fr.transNo hf, h.le⟩
/-- The journal has turned; the list of entries stays. -/
theorem GAt.jto {w0 w w' : World} {j d : Nat} {v : Value} {q : List Int} {ns k : Nat} {F : Nat → Prop} {xs : List UInt8} {s : Js} (h : GAt w0 w j d v q ns F) (hj : JTo w F j d xs k s w') :
    ∃ F', JAt w' F' j d xs k s ∧ OwnN w' (fun i => w0.heap.size ≤ i) TLg 10 v q.length (logV (gl q)) ∧ (∀ g, v.ownBlock = some g → ¬ F' g) ∧ (∀ i, F' i → w0.heap.size ≤ i) ∧ Fr No w0 w' := by
  obtain ⟨F', g1, g2, g3⟩ := hj
  refine ⟨F', g1, h.out.fr' g3 h.apart, fun g hg hh => ?_, fun i hi => (g2 i hi).elim (fun x => h.new i x) (fun x => Nat.le_trans h.fr.size x), h.fr.transNew g3 h.new⟩
  have hl := h.out.lt g hg
  rcases g2 g hh with x | x
  · exact h.apart g hg x
  · omega
theorem GAt.synced {w0 w w' : World} {j d : Nat} {v : Value} {q : List Int} {ns : Nat} {F : Nat → Prop} (h : GAt w0 w j d v q ns F) (hj : JTo w F j d (gxs q) (gxs q).length (gst q) w') : ∃ F', GAt w0 w' j d v q q.length F' := by
  obtain ⟨F', g1, g2, g3, g4, g5⟩ := h.jto hj
  exact ⟨F', by rw [List.take_length]; exact g1, g2, g3, g4, g5, Nat.le_refl _⟩
/-- An entry was appended to the list too. -/
theorem GAt.push {w0 w w' : World} {j d : Nat} {v v' : Value} {q : List Int} {ns : Nat} {F : Nat → Prop} {x : Int} (h1 : JAt w F j d (gxs (q ++ [x])) (gxs (q.take ns)).length (gst (q ++ [x]))) (h2 : OwnN w (fun i => w0.heap.size ≤ i) TLg 10 v q.length (logV (gl q))) (h3 : ∀ g, v.ownBlock = some g → ¬ F g) (h4 : ∀ i, F i → w0.heap.size ≤ i) (h5 : Fr No w0 w) (h6 : ns ≤ q.length)
    (ha : AppendedN w 0 TLg 10 v q.length (logV (gl q)) (Lg.cells ⟨1, noteE (x % 1000)⟩) 1 v' w') : GAt w0 w' j d v' (q ++ [x]) ns F := by
  obtain ⟨o1, -⟩ := h2.appended ha
  have hg : Fr (fun i => v.ownBlock = some i) w w' := (Fr.refl _ _).grown ha.2.1 fun k hk => .inl hk
  have hs := h5.size
  refine ⟨?_, ?_, ?_, h4, h5.transNew hg fun i hi => h2.2 i hi, by rw [List.length_append]; omega⟩
  · rw [List.take_append_of_le_length h6]
    exact h1.fr hg fun i hi hh => h3 i hh hi
  · rw [gl_snoc, logV_snoc, List.length_append]
    exact o1.mono fun i hi => by rcases hi with hi | hi <;> omega
  · intro g hgv hh
    rcases ha.2.2 with e1 | e1
    · exact h3 g (e1.symm.trans hgv) hh
    · rw [e1] at hgv
      injection hgv with hgv
      have := h1.lt g hh
      omega

set_option maxRecDepth 100000 in
set_option maxHeartbeats 4000000 in
theorem grown_any (A : Option Addr) (n c : Nat) (q : List Int) (sync : Int) (w : World) (B : Nat) (hA : A = none → n = 0) (hq : q.length = n) (hr : Rd w B A (q.map iv)) (hB : B ≤ w.heap.size) (hnn : n ≤ maxLen) :
    Calls Try.prog 10 #[.slice A n c, .int .i64 sync] w fun e w' => ∃ (j d : Nat) (F : Nat → Prop) (Ao : Option Addr) (co ns : Nat), e = .returned (.tuple #[.pointer (some ⟨j, 0, none⟩), .slice Ao (q.take 30).length co, .int .i64 (ns : Int)]) ∧ GAt w w' j d (.slice Ao (q.take 30).length co) (q.take 30) ns F := by
  obtain ⟨i0, hi0, hz0, hz1, hz2⟩ := info_parts log_info
  have x1 : setTermX jsNew 1 0 = 0 := by decide
  have y1 : setTermS jsNew 1 0 = gst [] := by unfold setTermS; rw [if_pos x1]; rfl
  have e1 : [] ++ putN 8 (recT 1 0) = gxs [] := by simp [gxs, grecs, frames]
  unfold maxLen at hnn
  have HA := Lib.hid hA
  have HQ := Lib.hid hq
  have HR := Lib.hid hr
  have X1 := Lib.hid x1
  have Y1 := Lib.hid y1
  have E1 := Lib.hid e1
  clear hA hq hr x1 y1 e1
  go_enter Try.func10, Try.ntmps10
  go_wp2_with fail
  refine (j_new _).mono ?_
  rintro e w1 ⟨j, d, F, rfl, a1, n1, f1⟩
  have A1 := Lib.hid a1
  have N1 := Lib.hid n1
  have F1 := Lib.hid f1
  clear a1 n1 f1
  go_wp2_with fail
  refine (j_SetTerm A1.out 1 0 (by simp)).mono ?_
  rintro e w2 ⟨rfl, j2⟩
  rw [X1.out, if_pos rfl, Y1.out, E1.out] at j2
  obtain ⟨F2, a2, n2, f2⟩ := j2.own F1.out N1.out
  rw [X1.out]
  clear j2 A1 N1 F1
  have A2 := Lib.hid a2
  have N2 := Lib.hid n2
  have F2 := Lib.hid f2
  clear a2 n2 f2
  go_wp2_with fail
  refine (j_sync A2.out).mono ?_
  rintro e w3 ⟨rfl, j3⟩
  obtain ⟨F3, a3, n3, f3⟩ := j3.own F2.out N2.out
  clear j3 A2 N2 F2
  have hg : GAt w w3 j d (.slice none 0 0) [] 0 F3 := ⟨a3, OwnN.nil _ _ _ _, fun g hg => (by cases hg), n3, f3, Nat.le_refl _⟩
  clear a3 n3 f3
  have HG := Lib.hid hg
  clear hg
  go_wp2_with fail
  go_loopw [8, 9, 10] (fun o m i wr => ∃ (k ns : Nat) (Ao : Option Addr) (co : Nat) (F : Nat → Prop), k ≤ n ∧ k ≤ 30 ∧ i = .int .i64 k ∧ m = .int .i64 (ns : Int) ∧ o = .slice Ao k co ∧ (Ao = none → k = 0) ∧ GAt w wr j d (.slice Ao k co) (q.take k) ns F) (fun _ _ i _ => 30 - (intOf i).toNat)
  case atStart => exact ⟨0, 0, none, 0, F3, Nat.zero_le _, Nat.zero_le _, rfl, rfl, rfl, fun _ => rfl, HG.out⟩
  case round =>
    obtain ⟨k, ns, Ao, co, G, hk, hk30, rfl, rfl, rfl, hno, hg⟩ := hrel
    clear HG
    by_cases h1 : k < n
    · by_cases h2 : k < 30
      · have b1 : decide ((k : Int) < (n : Int)) = true := by simp; omega
        have b2 : decide ((k : Int) < 30) = true := by simp; omega
        have hkl : k < q.length := by rw [HQ.out]; exact h1
        have hql : (q.take k).length = k := by rw [List.length_take, HQ.out]; omega
        obtain ⟨b, off, rfl, hbB, hc⟩ := HR.out.at_ (by rw [List.length_map, HQ.out]; omega)
        have hcell := fun W (hf : Fr No w W) => ((hf.cell (p := ⟨b, off + k, none⟩) (by simp; omega) (fun h => h)).trans (by rw [hc k (by rw [List.length_map]; exact hkl), List.getElem_map]) : W.cell? ⟨b, off + k, none⟩ = some (.int .i64 q[k]))
        have hts := List.take_succ_eq_append_getElem hkl
        generalize q[k] = x at *
        have hnote := fun W => note_any x W
        unfold noteE En.v at hnote
        clear hc
        have HCELL := Lib.hid hcell
        have HTS := Lib.hid hts
        have HNOTE := Lib.hid hnote
        clear hcell hts hnote
        have HGG := Lib.hid hg
        clear hg
        go_wp2_with fail
        refine (mod_any sync 31 _ (by decide) (by decide)).mono ?_
        rintro e w4 ⟨rfl, rfl⟩
        generalize sync % 31 = m
        by_cases hm : (k : Int) = m
        · subst hm
          go_wp2_with fail
          refine (j_sync HGG.out.jn).mono ?_
          rintro e w5 ⟨rfl, j5⟩
          obtain ⟨G5, g5⟩ := HGG.out.synced j5
          rw [hql] at g5
          replace HGG := Lib.hid g5
          clear j5 g5
          have cx := HCELL.out _ HGG.out.fr
          go_wp2_with fail
          refine (HNOTE.out _).mono ?_
          rintro e w6 ⟨rfl, f6⟩
          have g6 := HGG.out.frNo f6
          have hap := j_Append g6.jn (by rw [gl_len]; omega) 1 (noteE (x % 1000)) (noteE_ok _ (note_bd x).1 (note_bd x).2) (by have := gxs_len (q.take k); omega)
          obtain ⟨a1, a2⟩ := add_note (q.take k) x (by omega)
          rw [a1, a2] at hap
          simp only [if_true, ← gxs_snoc] at hap
          have hjt := fun w9 hj => g6.jto (w' := w9) (xs := gxs (q.take k ++ [x])) (k := (gxs ((q.take k).take k)).length) (s := gst (q.take k ++ [x])) hj
          have hle := g6.le
          unfold noteE En.v at hap
          clear HGG f6 g6 a1 a2 cx
          have HAP := Lib.hid hap
          have HJT := Lib.hid hjt
          clear hap hjt
          go_wp2_with fail
          refine HAP.out.mono ?_
          rintro e w7 ⟨rfl, j7⟩
          obtain ⟨G7, jn7, o7, ap7, nw7, f7⟩ := HJT.out _ j7
          have cx := HCELL.out _ f7
          have JN7 := Lib.hid jn7
          have O7 := Lib.hid o7
          have AP7 := Lib.hid ap7
          have NW7 := Lib.hid nw7
          have F7 := Lib.hid f7
          clear j7 jn7 o7 ap7 nw7 f7 HAP HJT
          go_wp2_with fail
          refine (HNOTE.out _).mono ?_
          rintro e w8 ⟨rfl, f8⟩
          have J8 := Lib.hid (JN7.out.frNo f8)
          have O8 := Lib.hid (O7.out.frNo f8)
          have F8 := Lib.hid (F7.out.transNo f8)
          clear f8 JN7 O7 F7 cx
          have hrow : ∀ W, Fr No w8 W → W.ownsRow 0 TLg 10 (.slice Ao k co) k (logV (gl (q.take k))) := fun W hf => by have := (O8.out.frNo hf).1; rwa [hql] at this
          have HROW := Lib.hid hrow
          clear hrow
          go_wp2_with (at_builtin; refine wpList_append_rdN _ rfl (.tmp 46) (.tmp 53) _ rfl 0 TLg i0 _ 10 80 Try.underlying24 hi0 hz0 hz1 hz2 rfl (by decide) (.slice Ao k co) k (logV (gl (q.take k))) rfl ?k1 (w8.heap.size + 1) (some ⟨w8.heap.size, 0, none⟩) 1 1 (Lg.cells ⟨1, noteE (x % 1000)⟩) rfl (fun h => by cases h) ?k2 rfl ?k3 ?k4 ?k5 (Nat.zero_le _) ?_)
          case k1 => exact HROW.out _ (fr_alloc w8 _)
          case k2 => exact Rd.new w8 _ TLg rfl
          case k3 => simp [Lg.cells, Value.oneCell']
          case k4 => unfold maxLen; omega
          case k5 => omega
          intro v9 w9 happ
          obtain ⟨A9, c9, rfl, n9⟩ := ownsRow_slice_form happ.1
          have hg9 : GAt w w9 j d (.slice A9 (k + 1) c9) (q.take k ++ [x]) k G7 := GAt.push (J8.out.frNo (fr_alloc w8 _)) (O8.out.frNo (fr_alloc w8 _)) AP7.out NW7.out (F8.out.alloc _) hle (by rw [hql]; exact happ)
          have HG9 := Lib.hid hg9
          have HN9 := Lib.hid n9
          clear happ hg9 n9 J8 O8 F8
          go_wp2_with fail
          go_roundw
          case rel => exact ⟨k + 1, k, A9, c9, G7, by omega, by omega, by go_num, rfl, rfl, HN9.out, by rw [HTS.out]; exact HG9.out⟩
          case measure => simp [intOf]; omega
        · have b3 : ((k : Int) == m) = false := by simpa using hm
          have HM := Lib.hid hm
          clear hm
          have cx := HCELL.out _ HGG.out.fr
          go_wp2_with fail
          refine (HNOTE.out _).mono ?_
          rintro e w6 ⟨rfl, f6⟩
          have g6 := HGG.out.frNo f6
          have hap := j_Append g6.jn (by rw [gl_len]; omega) 1 (noteE (x % 1000)) (noteE_ok _ (note_bd x).1 (note_bd x).2) (by have := gxs_len (q.take k); omega)
          obtain ⟨a1, a2⟩ := add_note (q.take k) x (by omega)
          rw [a1, a2] at hap
          simp only [if_true, ← gxs_snoc] at hap
          have hjt := fun w9 hj => g6.jto (w' := w9) (xs := gxs (q.take k ++ [x])) (k := (gxs ((q.take k).take ns)).length) (s := gst (q.take k ++ [x])) hj
          have hle := g6.le
          unfold noteE En.v at hap
          clear HGG f6 g6 a1 a2 cx
          have HAP := Lib.hid hap
          have HJT := Lib.hid hjt
          clear hap hjt
          go_wp2_with fail
          refine HAP.out.mono ?_
          rintro e w7 ⟨rfl, j7⟩
          obtain ⟨G7, jn7, o7, ap7, nw7, f7⟩ := HJT.out _ j7
          have cx := HCELL.out _ f7
          have JN7 := Lib.hid jn7
          have O7 := Lib.hid o7
          have AP7 := Lib.hid ap7
          have NW7 := Lib.hid nw7
          have F7 := Lib.hid f7
          clear j7 jn7 o7 ap7 nw7 f7 HAP HJT
          go_wp2_with fail
          refine (HNOTE.out _).mono ?_
          rintro e w8 ⟨rfl, f8⟩
          have J8 := Lib.hid (JN7.out.frNo f8)
          have O8 := Lib.hid (O7.out.frNo f8)
          have F8 := Lib.hid (F7.out.transNo f8)
          clear f8 JN7 O7 F7 cx
          have hrow : ∀ W, Fr No w8 W → W.ownsRow 0 TLg 10 (.slice Ao k co) k (logV (gl (q.take k))) := fun W hf => by have := (O8.out.frNo hf).1; rwa [hql] at this
          have HROW := Lib.hid hrow
          clear hrow
          go_wp2_with (at_builtin; refine wpList_append_rdN _ rfl (.tmp 46) (.tmp 53) _ rfl 0 TLg i0 _ 10 80 Try.underlying24 hi0 hz0 hz1 hz2 rfl (by decide) (.slice Ao k co) k (logV (gl (q.take k))) rfl ?m1 (w8.heap.size + 1) (some ⟨w8.heap.size, 0, none⟩) 1 1 (Lg.cells ⟨1, noteE (x % 1000)⟩) rfl (fun h => by cases h) ?m2 rfl ?m3 ?m4 ?m5 (Nat.zero_le _) ?_)
          case m1 => exact HROW.out _ (fr_alloc w8 _)
          case m2 => exact Rd.new w8 _ TLg rfl
          case m3 => simp [Lg.cells, Value.oneCell']
          case m4 => unfold maxLen; omega
          case m5 => omega
          intro v9 w9 happ
          obtain ⟨A9, c9, rfl, n9⟩ := ownsRow_slice_form happ.1
          have hg9 : GAt w w9 j d (.slice A9 (k + 1) c9) (q.take k ++ [x]) ns G7 := GAt.push (J8.out.frNo (fr_alloc w8 _)) (O8.out.frNo (fr_alloc w8 _)) AP7.out NW7.out (F8.out.alloc _) hle (by rw [hql]; exact happ)
          have HG9 := Lib.hid hg9
          have HN9 := Lib.hid n9
          clear happ hg9 n9 J8 O8 F8
          go_wp2_with fail
          go_roundw
          case rel => exact ⟨k + 1, ns, A9, c9, G7, by omega, by omega, by go_num, rfl, rfl, HN9.out, by rw [HTS.out]; exact HG9.out⟩
          case measure => simp [intOf]; omega
      · have b1 : decide ((k : Int) < (n : Int)) = true := by simp; omega
        have b2 : decide ((k : Int) < 30) = false := by simp; omega
        have hqe : q.take 30 = q.take k := by rw [show k = 30 from by omega]
        have hql : (q.take k).length = k := by rw [List.length_take, HQ.out]; omega
        have HG := Lib.hid hg
        have HQE := Lib.hid hqe
        have HQL := Lib.hid hql
        clear hg hqe hql
        go_wp2_with fail
        go_ret3
        exact ⟨j, d, G, Ao, co, ns, by rw [HQE.out, HQL.out]; rfl, by rw [HQE.out, HQL.out]; exact HG.out⟩
    · have b1 : decide ((k : Int) < (n : Int)) = false := by simp; omega
      have hqe : q.take 30 = q.take k := by rw [List.take_of_length_le (i := 30) (by rw [HQ.out]; omega), List.take_of_length_le (i := k) (by rw [HQ.out]; omega)]
      have hql : (q.take k).length = k := by rw [List.length_take, HQ.out]; omega
      have HG := Lib.hid hg
      have HQE := Lib.hid hqe
      have HQL := Lib.hid hql
      clear hg hqe hql
      go_wp2_with fail
      go_ret3
      exact ⟨j, d, G, Ao, co, ns, by rw [HQE.out, HQL.out]; rfl, by rw [HQE.out, HQL.out]; exact HG.out⟩
end Go.Proofs.Ytoiiblopnchljaa
