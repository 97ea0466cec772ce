/-
  The contracts of package disk.
-/
import Derived.Test.YtodkhcbjpodgeaaGreatG07
import Derived.StillTailTactics
namespace Go.Proofs.YtodkhcbjpodgeaaGreat
open Go.ChangeShapes Go.WideShapes Go.ChangeAt Go.RowKit
set_option linter.unusedVariables false
set_option maxRecDepth 100000
set_option maxHeartbeats 4000000
def dZ (w:World)(F:Nat→Prop)(d:Nat)(xs:List UInt8)(k:Nat):Prop:=
 ∃v,Blk w d 367 #[v,.int .i64 (k:Int)]∧F d∧Own w F 5 v (xs.map bv)∧k≤xs.length∧xs.length≤140737488355328∧∀i,F i→i<w.heap.size
def pI (w:World)(F:Nat→Prop)(d:Nat)(xs:List UInt8)(k:Nat)(w' :World):Prop:=
 ∃F',dZ w' F' d xs k∧(∀i,F' i→F i∨w.heap.size≤i)∧Fr F w w'
theorem dZ.fr {w w' :World}{F G:Nat→Prop}{d:Nat}{xs:List UInt8}{k:Nat}(h:dZ w F d xs k)(hf:Fr G w w')(hd:∀i,F i→¬G i):dZ w' F d xs k:=by
 obtain ⟨v,h1,h2,h3,h4,h5,h6⟩:=h;exact ⟨v,h1.fr hf (hd d h2),h2,h3.fr hf hd,h4,h5,fun i hi=>nll (h6 i hi) hf.size⟩
theorem dZ.au {w w' :World}{F:Nat→Prop}{d:Nat}{xs:List UInt8}{k:Nat}(h:dZ w F d xs k)(hf:Fr No w w'):dZ w' F d xs k:=h.fr hf fun _ _ hi=>hi
theorem dZ.lt {w:World}{F:Nat→Prop}{d:Nat}{xs:List UInt8}{k:Nat}(h:dZ w F d xs k):∀i,F i→i<w.heap.size:=by
 obtain ⟨v,h1,h2,h3,h4,h5,h6⟩:=h;exact h6
theorem dZ.open_ {w:World}{F:Nat→Prop}{d:Nat}{xs:List UInt8}{k:Nat}(h:dZ w F d xs k):
  ∃A c,Blk w d 367 #[.slice A xs.length c,.int .i64 (k:Int)]∧F d∧Own w F 5 (.slice A xs.length c) (xs.map bv)∧k≤xs.length∧xs.length≤140737488355328∧(∀i,F i→i<w.heap.size)∧
   w.cell? ⟨d,0,none⟩=some (.slice A xs.length c)∧w.cell? ⟨d,1,none⟩=some (.int .i64 (k:Int))∧w.frozen? ⟨d,0,none⟩=false∧w.frozen? ⟨d,1,none⟩=false∧(A=none→xs.length=0)∧xs.length≤c:=by
 obtain ⟨v,h1,h2,h3,h4,h5,h6⟩:=h;obtain ⟨A,c,rfl,hn⟩:=h3.form;rw [List.length_map] at h1 h3 hn;exact ⟨A,c,h1,h2,h3,h4,h5,h6,h1.cell 0,h1.cell 1,h1.frozen 0,h1.frozen 1,hn,h3.cap.1⟩
theorem af4 (w:World):
  Calls Tryz.prog 231 #[] w fun e w' =>e= .returned (.pointer (some ⟨w.heap.size,0,none⟩))∧dZ w' (fun i=>i=w.heap.size) w.heap.size [] 0∧Fr No w w' :=by
 go_in
 go_wp2
 go_ret
 refine ⟨rfl,⟨.slice none 0 0,Blk.new _ _ _,rfl,Own.nil _ _ _,Nat.le_refl _,by simp,?_⟩,(Fr.refl _ _).alloc _⟩;intro i hi;subst hi
 simp
theorem nA {w:World}{F:Nat→Prop}{d:Nat}{v v' :Value}{k:Nat}{xs:List UInt8}(i:Nat)(u:Value)(h1:Blk w d 367 #[v,.int .i64 (k:Int)])(h3:Own w F 5 v' (xs.map bv)):
  Blk (w.setCell ⟨d,i,none⟩ u) d 367 (#[v,.int .i64 (k:Int)].setIfInBounds i u)∧Own (w.setCell ⟨d,i,none⟩ u) F 5 v' (xs.map bv):=
 ⟨h1.aC i u,h3.fr' (gU w ⟨d,i,none⟩ u) (h3.aW h1 dcd)⟩
theorem acp (w:World)(F:Nat→Prop)(d:Nat)(xs:List UInt8)(k:Nat)(h:dZ w F d xs k):
  Calls Tryz.prog 284 #[.pointer (some ⟨d,0,none⟩)] w fun e w' =>e= .returned (.tuple #[])∧pI w F d xs xs.length w' :=by
 obtain ⟨A,c,h1,h2,h3,h4,h5,h6,c0,c1,f0,f1,hn,hcap⟩:=h.open_;obtain ⟨H1,H3,H6⟩:=bC h1 h3 h6;clear h1 h3 hn h h6
 go_in
 go_wp2
 go_end0
 obtain ⟨g1,g3⟩:=nA 1 (.int .i64 (xs.length:Int)) H1.out H3.out;exact ⟨rfl,F,⟨_,g1,h2,g3,Nat.le_refl _,h5,fun i hi=>by simpa [World.setCell] using H6.out i hi⟩,fun i hi=> .inl hi,(Fr.refl _ _).setCell (.inl h2) _⟩
theorem vB (w:World)(F:Nat→Prop)(d:Nat)(xs:List UInt8)(k:Nat)(h:dZ w F d xs k)
  (A2:Option Addr) (m c2:Nat) (ys:List UInt8) (B:Nat) (hA:A2=none→m=0) (hr:Rd w B A2 (ys.map bv)) (hm:ys.length=m) (hsz:xs.length+m≤140737488355328):
  Calls Tryz.prog 310 #[.pointer (some ⟨d,0,none⟩),.slice A2 m c2] w fun e w' =>e= .returned (.tuple #[])∧pI w F d (xs++ys) k w' :=by
 obtain ⟨A,c,h1,h2,h3,h4,h5,h6,c0,c1,f0,f1,hn,hcap⟩:=h.open_;obtain ⟨i0,hi0,hz0,hz1,hz2⟩:=info_parts iH;obtain ⟨H1,H3,H6,HA,HR,HM⟩:=oK h1 h3 h6 hA hr hm;clear h1 h3 hn h h6 hA hr hm
 go_in
 go_wp2_with (at_builtin;refine bN _ rfl (.tmp 8) (.tmp 9) _ rfl 0 5 i0 _ 1 Tryz.underlying211 hi0 hz0 hz1 hz2 rfl (.slice A xs.length c) (xs.map bv).length (xs.map bv) rfl H3.out.1 B A2 m c2 (ys.map bv) rfl ?c1 ?c2 ?c3 (nG ys) ?c4 ?c5 ?c6 ?_)
 case c1=>exact HA.out
 case c2=>exact HR.out
 case c3=>rw [List.length_map,HM.out]
 case c4=>unfold maxLen;rw [List.length_map];omega
 case c5=>rw [List.length_map];omega
 case c6=>exact Nat.zero_le _
 intro v1 w1 happ;obtain ⟨o1,o2⟩:=H3.out.appended (by rw [List.length_map]) (by rw [List.length_map,HM.out]) happ;rw [←List.map_append] at o1;obtain ⟨A1,cc1,rfl,_⟩:=o1.form;rw [List.length_map] at o1 ⊢;have at5:∀g,(Value.slice A xs.length c).ownBlock=some g→g≠d:=H3.out.aW H1.out dcd;have hgr:=happ.2.1;have g1:Blk w1 d 367 #[.slice A xs.length c,.int .i64 (k:Int)]:=(hgr.block d H1.out.lt (fun e=>at5 d e.symm rfl)).trans H1.out;have c0' :=g1.cell 0;have f0' :=g1.frozen 0;simp only [List.getElem?_toArray,List.getElem?_cons_zero] at c0';obtain ⟨G1,O1,O2⟩:=bC g1 o1 o2;clear happ o1 o2 g1 hgr at5
 go_wp2
 go_end0
 obtain ⟨g1,g3⟩:=nA 0 (.slice A1 (xs++ys).length cc1) G1.out O1.out;rw [List.length_append] at g1 g3;have hml:=HM.out;refine ⟨rfl,_,⟨_,g1,.inl h2,g3,by rw [List.length_append];omega,by rw [List.length_append];omega,?_⟩,?_,O2.out.setCell (.inl h2) _⟩
 ·intro i hi
  simp only [World.setCell,Array.size_modify]
  rcases hi with hi|hi
  ·exact nll (H6.out i hi) O2.out.size
  ·exact hi.2
 ·intro i hi
  rcases hi with hi|hi
  ·exact .inl hi
  ·exact .inr (Nat.le_of_eq hi.1.symm)
end Go.Proofs.YtodkhcbjpodgeaaGreat
