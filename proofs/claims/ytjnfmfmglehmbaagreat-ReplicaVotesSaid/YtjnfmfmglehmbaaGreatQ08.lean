/-
  The contracts of package disk.
-/
import Derived.Test.YtjnfmfmglehmbaaGreatQ06
import Derived.StillTailTactics
namespace Go.Proofs.YtjnfmfmglehmbaaGreat
open Go.ChangeShapes Go.WideShapes Go.ChangeAt Go.RowKit
set_option linter.unusedVariables false
set_option maxRecDepth 100000
set_option maxHeartbeats 4000000
def eB (w:World)(F:Nat→Prop)(d:Nat)(xs:List UInt8)(k:Nat):Prop:=
 ∃v,Blk w d 130 #[v,.int .i64 (k:Int)]∧F d∧Own w F 5 v (xs.map bv)∧k≤xs.length∧xs.length≤140737488355328∧∀i,F i→i<w.heap.size
def kI (w:World)(F:Nat→Prop)(d:Nat)(xs:List UInt8)(k:Nat)(w' :World):Prop:=
 ∃F',eB w' F' d xs k∧(∀i,F' i→F i∨w.heap.size≤i)∧Fr F w w'
theorem eB.fr {w w' :World}{F G:Nat→Prop}{d:Nat}{xs:List UInt8}{k:Nat}(h:eB w F d xs k)(hf:Fr G w w')(hd:∀i,F i→¬G i):eB w' F d xs k:=by
 obtain ⟨v,h1,h2,h3,h4,h5,h6⟩:=h;exact ⟨v,h1.fr hf (hd d h2),h2,h3.fr hf hd,h4,h5,fun i hi=>nll (h6 i hi) hf.size⟩
theorem eB.ak {w w' :World}{F:Nat→Prop}{d:Nat}{xs:List UInt8}{k:Nat}(h:eB w F d xs k)(hf:Fr No w w'):eB w' F d xs k:=h.fr hf fun _ _ hi=>hi
theorem eB.lt {w:World}{F:Nat→Prop}{d:Nat}{xs:List UInt8}{k:Nat}(h:eB w F d xs k):∀i,F i→i<w.heap.size:=by
 obtain ⟨v,h1,h2,h3,h4,h5,h6⟩:=h;exact h6
theorem eB.open_ {w:World}{F:Nat→Prop}{d:Nat}{xs:List UInt8}{k:Nat}(h:eB w F d xs k):
  ∃A c,Blk w d 130 #[.slice A xs.length c,.int .i64 (k:Int)]∧F d∧Own w F 5 (.slice A xs.length c) (xs.map bv)∧k≤xs.length∧xs.length≤140737488355328∧(∀i,F i→i<w.heap.size)∧
   w.cell? ⟨d,0,none⟩=some (.slice A xs.length c)∧w.cell? ⟨d,1,none⟩=some (.int .i64 (k:Int))∧w.frozen? ⟨d,0,none⟩=false∧w.frozen? ⟨d,1,none⟩=false∧(A=none→xs.length=0)∧xs.length≤c:=by
 obtain ⟨v,h1,h2,h3,h4,h5,h6⟩:=h;obtain ⟨A,c,rfl,hn⟩:=h3.form;rw [List.length_map] at h1 h3 hn;exact ⟨A,c,h1,h2,h3,h4,h5,h6,h1.cell 0,h1.cell 1,h1.frozen 0,h1.frozen 1,hn,h3.cap.1⟩
theorem agr (w:World):
  Calls Tryz.prog 78 #[] w fun e w' =>e= .returned (.pointer (some ⟨w.heap.size,0,none⟩))∧eB w' (fun i=>i=w.heap.size) w.heap.size [] 0∧Fr No w w' :=by
 go_in
 go_wp2
 go_ret
 refine ⟨rfl,⟨.slice none 0 0,Blk.new _ _ _,rfl,Own.nil _ _ _,Nat.le_refl _,by simp,?_⟩,(Fr.refl _ _).alloc _⟩;intro i hi;subst hi
 simp
theorem jG {w:World}{F:Nat→Prop}{d:Nat}{v v' :Value}{k:Nat}{xs:List UInt8}(i:Nat)(u:Value)(h1:Blk w d 130 #[v,.int .i64 (k:Int)])(h3:Own w F 5 v' (xs.map bv)):
  Blk (w.setCell ⟨d,i,none⟩ u) d 130 (#[v,.int .i64 (k:Int)].setIfInBounds i u)∧Own (w.setCell ⟨d,i,none⟩ u) F 5 v' (xs.map bv):=
 ⟨h1.aU i u,h3.fr' (dx w ⟨d,i,none⟩ u) (h3.fT h1 dcd)⟩
theorem aec (w:World)(F:Nat→Prop)(d:Nat)(xs:List UInt8)(k:Nat)(h:eB w F d xs k):
  Calls Tryz.prog 125 #[.pointer (some ⟨d,0,none⟩)] w fun e w' =>e= .returned (.tuple #[])∧kI w F d xs xs.length w' :=by
 obtain ⟨A,c,h1,h2,h3,h4,h5,h6,c0,c1,f0,f1,hn,hcap⟩:=h.open_;obtain ⟨H1,H3,H6⟩:=bP h1 h3 h6;clear h1 h3 hn h h6
 go_in
 go_wp2
 go_end0
 obtain ⟨g1,g3⟩:=jG 1 (.int .i64 (xs.length:Int)) H1.out H3.out;exact ⟨rfl,F,⟨_,g1,h2,g3,Nat.le_refl _,h5,fun i hi=>by simpa [World.setCell] using H6.out i hi⟩,fun i hi=> .inl hi,(Fr.refl _ _).setCell (.inl h2) _⟩
theorem tF (w:World)(F:Nat→Prop)(d:Nat)(xs:List UInt8)(k:Nat)(h:eB w F d xs k):
  Calls Tryz.prog 134 #[.pointer (some ⟨d,0,none⟩)] w fun e w' =>∃A c,e= .returned (.slice A xs.length c)∧Own w' (fun i=>w.heap.size≤i) 5 (.slice A xs.length c) (xs.map bv)∧Fr No w w' :=by
 obtain ⟨A,c,h1,h2,h3,h4,h5,h6,c0,c1,f0,f1,hn,hcap⟩:=h.open_;obtain ⟨i0,hi0,hz0,hz1,hz2⟩:=info_parts bD;obtain ⟨H1,H3,HN⟩:=bP h1 h3 hn;clear h1 h3 hn h h6
 go_in
 go_wp2_with (at_builtin;refine ay _ rfl _ (.tmp 6) _ rfl 0 5 i0 _ 1 Tryz.underlying128 hi0 hz0 hz1 hz2 rfl (.slice none 0 0) 0 [] rfl (World.ownsRow_nil _ _ _ _) w.heap.size A xs.length c (xs.map bv) rfl ?c1 ?c2 ?c3 (dS xs) ?c4 ?c5 ?c6 ?_)
 case c1=>exact HN.out
 case c2=>exact H3.out.rd
 case c3=>rw [List.length_map]
 case c4=>unfold maxLen;omega
 case c5=>omega
 case c6=>exact Nat.zero_le _
 intro v1 w1 happ;obtain ⟨o1,o2⟩:=(Own.nil w No 5).appended rfl (by rw [List.length_map]) happ;rw [List.nil_append] at o1;obtain ⟨A1,cc1,rfl,_⟩:=o1.form;rw [List.length_map] at o1 ⊢;obtain ⟨O1,O2⟩:=aO o1 o2;clear happ o1 o2
 go_wp2
 go_ret
 exact ⟨A1,cc1,rfl,O1.out.mono fun i hi=>hi.elim False.elim fun h=>Nat.le_of_eq h.1.symm,O2.out⟩
theorem yh (w:World)(F:Nat→Prop)(d:Nat)(xs:List UInt8)(k:Nat)(h:eB w F d xs k)
  (A2:Option Addr) (m c2:Nat) (ys:List UInt8) (B:Nat) (hA:A2=none→m=0) (hr:Rd w B A2 (ys.map bv)) (hm:ys.length=m) (hsz:xs.length+m≤140737488355328):
  Calls Tryz.prog 152 #[.pointer (some ⟨d,0,none⟩),.slice A2 m c2] w fun e w' =>e= .returned (.tuple #[])∧kI w F d (xs++ys) k w' :=by
 obtain ⟨A,c,h1,h2,h3,h4,h5,h6,c0,c1,f0,f1,hn,hcap⟩:=h.open_;obtain ⟨i0,hi0,hz0,hz1,hz2⟩:=info_parts bD;obtain ⟨H1,H3,H6,HA,HR,HM⟩:=lG h1 h3 h6 hA hr hm;clear h1 h3 hn h h6 hA hr hm
 go_in
 go_wp2_with (at_builtin;refine ay _ rfl (.tmp 8) (.tmp 9) _ rfl 0 5 i0 _ 1 Tryz.underlying128 hi0 hz0 hz1 hz2 rfl (.slice A xs.length c) (xs.map bv).length (xs.map bv) rfl H3.out.1 B A2 m c2 (ys.map bv) rfl ?c1 ?c2 ?c3 (dS ys) ?c4 ?c5 ?c6 ?_)
 case c1=>exact HA.out
 case c2=>exact HR.out
 case c3=>rw [List.length_map,HM.out]
 case c4=>unfold maxLen;rw [List.length_map];omega
 case c5=>rw [List.length_map];omega
 case c6=>exact Nat.zero_le _
 intro v1 w1 happ;obtain ⟨o1,o2⟩:=H3.out.appended (by rw [List.length_map]) (by rw [List.length_map,HM.out]) happ;rw [←List.map_append] at o1;obtain ⟨A1,cc1,rfl,_⟩:=o1.form;rw [List.length_map] at o1 ⊢;have aqd:∀g,(Value.slice A xs.length c).ownBlock=some g→g≠d:=H3.out.fT H1.out dcd;have hgr:=happ.2.1;have g1:Blk w1 d 130 #[.slice A xs.length c,.int .i64 (k:Int)]:=(hgr.block d H1.out.lt (fun e=>aqd d e.symm rfl)).trans H1.out;have c0' :=g1.cell 0;have f0' :=g1.frozen 0;simp only [List.getElem?_toArray,List.getElem?_cons_zero] at c0';obtain ⟨G1,O1,O2⟩:=bP g1 o1 o2;clear happ o1 o2 g1 hgr aqd
 go_wp2
 go_end0
 obtain ⟨g1,g3⟩:=jG 0 (.slice A1 (xs++ys).length cc1) G1.out O1.out;rw [List.length_append] at g1 g3;have hml:=HM.out;refine ⟨rfl,_,⟨_,g1,.inl h2,g3,by rw [List.length_append];omega,by rw [List.length_append];omega,?_⟩,?_,O2.out.setCell (.inl h2) _⟩
 ·intro i hi
  simp only [World.setCell,Array.size_modify]
  rcases hi with hi|hi
  ·exact nll (H6.out i hi) O2.out.size
  ·exact hi.2
 ·intro i hi
  rcases hi with hi|hi
  ·exact .inl hi
  ·exact .inr (Nat.le_of_eq hi.1.symm)
theorem zG {w:World}{F:Nat→Prop}{d:Nat}{A:Option Addr}{c k m:Nat}{xs:List UInt8}(h1:Blk w d 130 #[.slice A xs.length c,.int .i64 (k:Int)])(h3:Own w F 5 (.slice A xs.length c) (xs.map bv))(hm:m≤xs.length)(u:Value):
  Blk ((w.setCell ⟨d,0,none⟩ (.slice A m c)).setCell ⟨d,1,none⟩ u) d 130 #[.slice A m c,u]∧Own ((w.setCell ⟨d,0,none⟩ (.slice A m c)).setCell ⟨d,1,none⟩ u) F 5 (.slice A m c) ((xs.take m).map bv):=by
 have h3' :Own w F 5 (.slice A m c) ((xs.take m).map bv):=by
  rw [List.map_take];exact h3.cut hm
 obtain ⟨g1,g3⟩:=jG 0 (.slice A m c) h1 h3';obtain ⟨e1,e3⟩:=jG 1 u g1 g3;exact ⟨e1,e3⟩
theorem nX (w:World)(F:Nat→Prop)(d:Nat)(xs:List UInt8)(k:Nat)(h:eB w F d xs k)(n:Nat)(hyes:n≤xs.length):
  Calls Tryz.prog 137 #[.pointer (some ⟨d,0,none⟩),.int .i64 (n:Int)] w fun e w' =>e= .returned (.int .i64 0)∧kI w F d (xs.take n) (min k n) w' :=by
 obtain ⟨A,c,h1,h2,h3,h4,h5,h6,c0,c1,f0,f1,hn,hcap⟩:=h.open_;obtain ⟨H1,H3,H6⟩:=bP h1 h3 h6;clear h1 h3 hn h h6;have hn0:decide ((n:Int)<0)=false:=by simp
 have hn1:decide ((xs.length:Int)<(n:Int))=false:=by simp;omega
 have hn2:¬xs.length<n:=by omega
 have hn3:n≤c:=by omega
 have hfin:∀q:Nat,q=min k n→kI w F d (xs.take n) (min k n) ((w.setCell ⟨d,0,none⟩ (.slice A n c)).setCell ⟨d,1,none⟩ (.int .i64 (q:Int))):=by
  rintro q rfl;obtain ⟨g1,g3⟩:=zG H1.out H3.out hyes (.int .i64 ((min k n:Nat):Int));have hl:(xs.take n).length=n:=by rw [List.length_take];omega
  refine ⟨F,⟨_,g1,h2,g3,by omega,by omega,fun i hi=>by simpa [World.setCell] using H6.out i hi⟩,fun i hi=> .inl hi,((Fr.refl _ _).setCell (.inl h2) _).setCell (.inl h2) _⟩
 have HF:=O hfin;clear hfin
 by_cases hmin:n<k
 ·go_in
  go_wp2
  go_ret
  exact ⟨rfl,HF.out n oy⟩
 ·go_in
  go_wp2
  go_ret
  exact ⟨rfl,HF.out k oy⟩
def bJ (len k:Nat)(keep:Int):Nat:=k+(max 0 (min keep ((len:Int)-(k:Int)))).toNat
set_option maxHeartbeats 1000000 in
theorem aav (w:World)(F:Nat→Prop)(d:Nat)(xs:List UInt8)(k:Nat)(h:eB w F d xs k)(keep:Int):
  Calls Tryz.prog 133 #[.pointer (some ⟨d,0,none⟩),.int .i64 keep] w fun e w' =>e= .returned (.tuple #[])∧kI w F d (xs.take (bJ xs.length k keep)) (bJ xs.length k keep) w' :=by
 obtain ⟨A,c,h1,h2,h3,h4,h5,h6,c0,c1,f0,f1,hn,hcap⟩:=h.open_;obtain ⟨H1,H3,H6⟩:=bP h1 h3 h6;have hfin:∀(q j:Nat),bJ xs.length k keep=q→kI w F d (xs.take (bJ xs.length k keep)) (bJ xs.length k keep) (((w.drewN j).setCell ⟨d,0,none⟩ (.slice A q c)).setCell ⟨d,1,none⟩ (.int .i64 (q:Int))):=by
  intro q j hq;have hqx:q≤xs.length:=by subst hq;unfold bJ;omega
  rw [hq];have h1' :Blk (w.drewN j) d 130 #[.slice A xs.length c,.int .i64 (k:Int)]:=h1;have h3' :Own (w.drewN j) F 5 (.slice A xs.length c) (xs.map bv):=h3;obtain ⟨g1,g3⟩:=zG h1' h3' hqx (.int .i64 (q:Int));have hl:(xs.take q).length=q:=by rw [List.length_take];omega
  exact ⟨F,⟨_,g1,h2,g3,by omega,by omega,fun i hi=>by simpa [World.setCell] using h6 i hi⟩,fun i hi=> .inl hi,(((Fr.refl _ _).drewN j).setCell (.inl h2) _).setCell (.inl h2) _⟩
 have HF:=O hfin;obtain ⟨p,hp⟩:∃p,xs.length=k+p:=⟨xs.length-k,by omega⟩;rw [hp] at c0 hcap h5;have HP:=O hp;clear h1 h3 hn h h6 hfin h4 hp
 by_cases hk1:keep≤0
 ·have HC:Hid (bJ xs.length k keep=k):=by
   have hp:=HP.out
   show bJ xs.length k keep=k
   unfold bJ;omega
  go_in
  go_wp2
  go_quiet (fail)
  go_wp2
  go_region
  go_wp2
  go_end0
  exact ⟨rfl,HF.out k _ HC.out⟩
 ·obtain ⟨kp,rfl⟩:∃kp:Nat,keep=(kp:Int):=⟨keep.toNat,by omega⟩
  by_cases hk2:kp<p
  ·have HC:Hid (bJ xs.length k (kp:Int)=k+kp):=by
    have hp:=HP.out
    show bJ xs.length k (kp:Int)=k+kp
    unfold bJ;omega
   go_in
   go_wp2
   go_quiet (fail)
   go_wp2
   go_region
   go_wp2
   go_end0
   have:=HF.out (k+kp) (nq+1) HC.out;rw [Int.natCast_add] at this;exact ⟨rfl,this⟩
  ·have HC:Hid (bJ xs.length k (kp:Int)=k+p):=by
    have hp:=HP.out
    show bJ xs.length k (kp:Int)=k+p
    unfold bJ;omega
   by_cases hp0:p=0
   ·subst hp0
    rw [Nat.add_zero] at c0 hcap h5
    go_in
    go_wp2
    go_quiet (fail)
    go_wp2
    try rw [Int.sub_self]
    go_region
    go_wp2
    go_end0
    exact ⟨rfl,HF.out k (nq+1) HC.out⟩
   ·have hp1:0<p:=by omega
    have hp2:p≤kp:=by omega
    clear hp0 hk2
    go_in
    go_wp2
    go_quiet (fail)
    go_wp2
    rw [show ((k:Int)+(p:Int)-(k:Int))=(p:Int) from by omega]
    by_cases hp3:p=kp
    ·subst hp3
     go_region
     go_wp2
     go_end0
     have:=HF.out (k+p) (nq+1) HC.out;rw [Int.natCast_add] at this;exact ⟨rfl,this⟩
    ·have hp4:p<kp:=by omega
     clear hp3 hp2
     go_region
     go_wp2
     go_end0
     have:=HF.out (k+p) (nq+1) HC.out;rw [Int.natCast_add] at this;exact ⟨rfl,this⟩
end Go.Proofs.YtjnfmfmglehmbaaGreat
