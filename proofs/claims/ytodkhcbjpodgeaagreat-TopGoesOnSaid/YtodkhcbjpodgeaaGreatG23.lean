/-
  The program's journal in memory; the contracts of its readers.
-/
import Derived.Test.YtodkhcbjpodgeaaGreatG22
import Derived.Test.YtodkhcbjpodgeaaGreatG08
import Derived.Test.YtodkhcbjpodgeaaGreatG15
namespace Go.Proofs.YtodkhcbjpodgeaaGreat
open Go.ChangeShapes Go.WideShapes Go.ChangeAt Go.RowKit
set_option linter.unusedVariables false
set_option maxRecDepth 100000
set_option maxHeartbeats 4000000
section
abbrev TJ:TypeId:=337
abbrev TLg:TypeId:=322
abbrev wV:Lg:=⟨0,ach⟩
def Lg.cells (x:Lg):List Value:=[.int .i64 x.term,.int .i64 x.e.kind,.int .i64 x.e.tick,.int .i64 x.e.bF,.int .i64 x.e.cell,.int .i64 x.e.other,.int .i64 x.e.epoch,.int .i64 x.e.from_,.int .i64 x.e.fE,.int .i64 x.e.n]
def Lg.v (x:Lg):Value:= .agg #[.int .i64 x.term,.int .i64 x.e.kind,.int .i64 x.e.tick,.int .i64 x.e.bF,.int .i64 x.e.cell,.int .i64 x.e.other,.int .i64 x.e.epoch,.int .i64 x.e.from_,.int .i64 x.e.fE,.int .i64 x.e.n]
def lu (l:List Lg):List Value:=l.flatMap Lg.cells
theorem eF (l:List Lg):(lu l).length=l.length*10:=by
 induction l with
 |nil=>rfl
 |cons x l ih=>simp only [lu,List.flatMap_cons,List.length_append,List.length_cons] at*;rw [ih,Nat.succ_mul];simp [Lg.cells];omega
theorem sw (l:List Lg)(x:Lg):lu (l++[x])=lu l++x.cells:=by simp [lu]
theorem eG (l:List Lg)(i j:Nat)(x:Lg)(hx:l[i]? =some x)(hj:j<10):(lu l)[i*10+j]? =x.cells[j]? :=by
 induction l generalizing i with
 |nil=>simp at hx
 |cons y l ih=>
  have hl:y.cells.length=10:=rfl;have e1:lu (y :: l)=y.cells++lu l:=by simp [lu]
  rw [e1]
  rcases i with _|i
  ·simp only [List.getElem?_cons_zero,Option.some.injEq] at hx
   subst hx;rw [Nat.zero_mul,Nat.zero_add,List.getElem?_append_left oy]
  ·rw [List.getElem?_append_right oy,hl,show (i+1)*10+j-10=i*10+j from by omega]
   exact ih i (by simpa using hx)
def JAt (w:World)(F:Nat→Prop)(j d:Nat)(xs:List UInt8)(k:Nat)(s:Js):Prop:=
 ∃v Fd,Blk w j TJ #[.pointer (some ⟨d,0,none⟩),.int .i64 s.term,.int .i64 s.fZ,v]∧F j∧aA w F TLg 10 v s.log.length (lu s.log)∧dZ w Fd d xs k∧(∀i,Fd i→F i)∧¬Fd j∧(∀g,v.ownBlock=some g→¬Fd g)∧∀i,F i→i<w.heap.size
def JTo (w:World)(F:Nat→Prop)(j d:Nat)(xs:List UInt8)(k:Nat)(s:Js)(w' :World):Prop:=
 ∃F',JAt w' F' j d xs k s∧(∀i,F' i→F i∨w.heap.size≤i)∧Fr F w w'
section
variable {w w' w1:World}{F G:Nat→Prop}{j d:Nat}{xs:List UInt8}{k:Nat}{s:Js}
theorem JAt.fr (h:JAt w F j d xs k s)(hf:Fr G w w')(hd:∀i,F i→¬G i):JAt w' F j d xs k s:=by
 obtain ⟨v,Fd,h1,h2,h3,h4,h5,h6,h7,h8⟩:=h;exact ⟨v,Fd,h1.fr hf (hd j h2),h2,h3.fr' hf fun g hg=>hd g (h3.2 g hg),h4.fr hf fun i hi=>hd i (h5 i hi),h5,h6,h7,fun i hi=>nll (h8 i hi) hf.size⟩
theorem JAt.au (h:JAt w F j d xs k s)(hf:Fr No w w'):JAt w' F j d xs k s:=h.fr hf fun _ _ hi=>hi
theorem JAt.lt (h:JAt w F j d xs k s):∀i,F i→i<w.heap.size:=by
 obtain ⟨v,Fd,h1,h2,h3,h4,h5,h6,h7,h8⟩:=h;exact h8
theorem JAt.self (h:JAt w F j d xs k s):JTo w F j d xs k s w:=⟨F,h,fun _ hi=> .inl hi,Fr.refl _ _⟩
theorem JAt.open_ (h:JAt w F j d xs k s):∃A c Fd,Blk w j TJ #[.pointer (some ⟨d,0,none⟩),.int .i64 s.term,.int .i64 s.fZ,.slice A s.log.length c]∧F j∧aA w F TLg 10 (.slice A s.log.length c) s.log.length (lu s.log)∧dZ w Fd d xs k∧(∀i,Fd i→F i)∧¬Fd j∧(∀g,Value.ownBlock (.slice A s.log.length c)=some g→¬Fd g)∧(∀i,F i→i<w.heap.size)∧
   w.cell? ⟨j,0,none⟩=some (.pointer (some ⟨d,0,none⟩))∧w.cell? ⟨j,1,none⟩=some (.int .i64 s.term)∧w.cell? ⟨j,2,none⟩=some (.int .i64 s.fZ)∧w.cell? ⟨j,3,none⟩=some (.slice A s.log.length c)∧(A=none→s.log.length=0):=by
 obtain ⟨v,Fd,h1,h2,h3,h4,h5,h6,h7,h8⟩:=h;obtain ⟨A,c,rfl,hn⟩:=h3.form;exact ⟨A,c,Fd,h1,h2,h3,h4,h5,h6,h7,h8,h1.cell 0,h1.cell 1,h1.cell 2,h1.cell 3,hn⟩
theorem JAt.disk {v:Value}{Fd:Nat→Prop}{ys:List UInt8}{m:Nat}(h1:Blk w j TJ #[.pointer (some ⟨d,0,none⟩),.int .i64 s.term,.int .i64 s.fZ,v])(h2:F j)(h3:aA w F TLg 10 v s.log.length (lu s.log))(h5:∀i,Fd i→F i)(h6:¬Fd j)(h7:∀g,v.ownBlock=some g→¬Fd g)(h8:∀i,F i→i<w.heap.size)
  (hd:pI w Fd d ys m w'):JTo w F j d ys m s w' :=by
 obtain ⟨Fd',g1,g2,g3⟩:=hd;have hjl:=h8 j h2;refine ⟨fun i=>F i∨(w.heap.size≤i∧i<w'.heap.size),⟨v,Fd',h1.fr g3 h6,.inl h2,(h3.fr' g3 h7).mono fun i hi=> .inl hi,g1,?_,?_,?_,?_⟩,?_,g3.mono h5⟩
 ·intro i hi
  have:=g1.lt i hi
  rcases g2 i hi with h|h
  ·exact .inl (h5 i h)
  ·exact .inr ⟨h,this⟩
 ·intro h
  rcases g2 j h with h|h
  ·exact h6 h
  ·omega
 ·intro g hg h
  have hl:=h3.lt g hg
  rcases g2 g h with h|h
  ·exact h7 g hg h
  ·omega
 ·intro i hi
  rcases hi with h|h
  ·exact nll (h8 i h) g3.size
  ·exact h.2
 ·intro i hi
  rcases hi with h|h
  ·exact .inl h
  ·exact .inr h.1
end
theorem ama {w:World}{F:Nat→Prop}{j d:Nat}{xs:List UInt8}{k:Nat}{s:Js}(h:JAt w F j d xs k s):
  Calls Tryz.prog 246 #[.pointer (some ⟨j,0,none⟩)] w fun e w' =>e= .returned (.int .i64 s.term)∧w=w' :=by
 obtain ⟨A,c,Fd,h1,h2,h3,h4,h5,h6,h7,h8,c0,c1,c2,c3,hn⟩:=h.open_;clear h h1 h2 h3 h4 h5 h6 h7 h8 hn
 go_in
 go_wp2_with fail
 go_ret
 exact ⟨rfl,rfl⟩
theorem ap5 {w:World}{F:Nat→Prop}{j d:Nat}{xs:List UInt8}{k:Nat}{s:Js}(h:JAt w F j d xs k s):
  Calls Tryz.prog 278 #[.pointer (some ⟨j,0,none⟩)] w fun e w' =>e= .returned (.int .i64 (s.log.length:Int))∧w=w' :=by
 obtain ⟨A,c,Fd,h1,h2,h3,h4,h5,h6,h7,h8,c0,c1,c2,c3,hn⟩:=h.open_;clear h h1 h2 h3 h4 h5 h6 h7 h8 hn
 go_in
 go_wp2_with fail
 go_ret
 exact ⟨rfl,rfl⟩
theorem ap4 (w:World):
  Calls Tryz.prog 177 #[] w fun e w' =>∃j d F,e= .returned (.pointer (some ⟨j,0,none⟩))∧JAt w' F j d [] 0 abf∧(∀i,F i→w.heap.size≤i)∧Fr No w w' :=by
 go_in
 go_wp2_with fail
 refine (af4 _).mono ?_;rintro e w1 ⟨rfl,h1,f1⟩;obtain ⟨H1,F1⟩:=aN h1 f1;clear h1 f1
 go_wp2_with fail
 go_ret
 have hs:=F1.out.size;have hd:=H1.out.lt w.heap.size rfl;refine ⟨w1.heap.size,w.heap.size,fun i=>i=w.heap.size∨i=w1.heap.size,rfl,⟨.slice none 0 0,fun i=>i=w.heap.size,Blk.new _ _ _,.inr rfl,aA.nil _ _ _ _,H1.out.au (aj _ _),fun i hi=> .inl hi,?_,fun g hg=>(by cases hg),?_⟩,?_,F1.out.alloc _⟩
 ·intro h
  omega
 ·intro i hi
  simp
  omega
 ·intro i hi
  omega
def atJ (l:List Lg)(i:Int):Lg×Bool:=if 0≤i then (match l[i.toNat]? with|some x=>(x,true)|none=>(wV,false)) else (wV,false)
theorem agh (l:List Lg)(i:Int):(atJ l i).1.term=dX l i:=by
 unfold atJ dX
 split
 ·cases l[i.toNat]? <;>rfl
 ·rfl
end
section
set_option maxHeartbeats 2000000 in
theorem asx {w:World}{F:Nat→Prop}{j d:Nat}{xs:List UInt8}{k:Nat}{s:Js}(h:JAt w F j d xs k s)(i:Int):
  Calls Tryz.prog 309 #[.pointer (some ⟨j,0,none⟩),.int .i64 i] w fun e w' =>e= .returned (.tuple #[(atJ s.log i).1.v,.bool (atJ s.log i).2])∧Fr No w w' :=by
 obtain ⟨A,c,Fd,h1,h2,h3,h4,h5,h6,h7,h8,c0,c1,c2,c3,hn⟩:=h.open_;have hjl:=h1.lt;clear h h1 h2 h4 h5 h6 h7 h8
 by_cases h0:i<0
 ·have ha:atJ s.log i=(wV,false):=by unfold atJ;rw [if_neg oy]
  rw [ha];have t1:decide (i<0)=true:=by simpa using h0
  clear ha hn h3
  go_in
  go_wp2_with fail
  refine bodyPost_ret (v:= .tuple #[.agg _,.bool false]) (by simp [results,Tryz.results309,go_sem]) rfl ⟨rfl,?_⟩;exact aj _ _
 ·have t1:decide (i<0)=false:=by simpa using h0
  obtain ⟨n,rfl⟩:∃n:Nat,i=(n:Int):=⟨i.toNat,by omega⟩
  by_cases h9:s.log.length≤n
  ·have ha:atJ s.log (n:Int)=(wV,false):=by unfold atJ;rw [if_pos oy,Int.toNat_natCast,List.getElem?_eq_none h9]
   rw [ha];have t2:decide ((s.log.length:Int)≤(n:Int))=true:=by simpa using h9
   clear ha hn h3
   go_in
   go_wp2_with fail
   refine bodyPost_ret (v:= .tuple #[.agg _,.bool false]) (by simp [results,Tryz.results309,go_sem]) rfl ⟨rfl,?_⟩;exact aj _ _
  ·obtain ⟨x,hx⟩:∃x,s.log[n]? =some x:=⟨_,List.getElem?_eq_getElem oy⟩
   have ha:atJ s.log (n:Int)=(x,true):=by unfold atJ;rw [if_pos oy,Int.toNat_natCast,hx]
   rw [ha];have t2:decide ((s.log.length:Int)≤(n:Int))=false:=by simp;omega
   obtain ⟨b,rfl,hb,-,hc⟩:=h3.head oy;have hlt:n<s.log.length:=by omega
   have e0:w.cell? ⟨b,n*10,none⟩=some (.int .i64 x.term):=by rw [←Nat.add_zero (n*10),hc _ (by rw [eF];omega),eG s.log n 0 x hx oy];rfl
   have e1:w.cell? ⟨b,n*10+1,none⟩=some (.int .i64 x.e.kind):=by rw [hc _ (by rw [eF];omega),eG s.log n 1 x hx oy];rfl
   have e2:w.cell? ⟨b,n*10+2,none⟩=some (.int .i64 x.e.tick):=by rw [hc _ (by rw [eF];omega),eG s.log n 2 x hx oy];rfl
   have e3:w.cell? ⟨b,n*10+3,none⟩=some (.int .i64 x.e.bF):=by rw [hc _ (by rw [eF];omega),eG s.log n 3 x hx oy];rfl
   have e4:w.cell? ⟨b,n*10+4,none⟩=some (.int .i64 x.e.cell):=by rw [hc _ (by rw [eF];omega),eG s.log n 4 x hx oy];rfl
   have e5:w.cell? ⟨b,n*10+5,none⟩=some (.int .i64 x.e.other):=by rw [hc _ (by rw [eF];omega),eG s.log n 5 x hx oy];rfl
   have e6:w.cell? ⟨b,n*10+6,none⟩=some (.int .i64 x.e.epoch):=by rw [hc _ (by rw [eF];omega),eG s.log n 6 x hx oy];rfl
   have e7:w.cell? ⟨b,n*10+7,none⟩=some (.int .i64 x.e.from_):=by rw [hc _ (by rw [eF];omega),eG s.log n 7 x hx oy];rfl
   have e8:w.cell? ⟨b,n*10+8,none⟩=some (.int .i64 x.e.fE):=by rw [hc _ (by rw [eF];omega),eG s.log n 8 x hx oy];rfl
   have e9:w.cell? ⟨b,n*10+9,none⟩=some (.int .i64 x.e.n):=by rw [hc _ (by rw [eF];omega),eG s.log n 9 x hx oy];rfl
   clear ha hn h3 hc h9;have HX:=O hx;clear hx
   go_in
   go_wp2_with fail
   refine bodyPost_ret (v:= .tuple #[.agg _,.bool true]) (by simp [results,Tryz.results309,go_sem]) rfl ⟨rfl,?_⟩;exact aj _ _
theorem wY {w:World}{F:Nat→Prop}{j d:Nat}{xs:List UInt8}{k:Nat}{s:Js}(h:JAt w F j d xs k s)(i:Int):
  Calls Tryz.prog 279 #[.pointer (some ⟨j,0,none⟩),.int .i64 i] w fun e w' =>e= .returned (.int .i64 (dX s.log i))∧Fr No w w' :=by
 have hA:=asx h i;rw [←agh];revert hA;generalize (atJ s.log i).1=x;generalize (atJ s.log i).2=b;intro hA;unfold Lg.v at hA;have HA:=O hA;clear hA;clear h
 go_in
 go_wp2_with fail
 refine HA.out.mono ?_;rintro e w1 ⟨rfl,f1⟩;have F1:=O f1;clear f1
 go_wp2_with fail
 go_ret
 exact ⟨rfl,F1.out.alloc _⟩
section
variable {w:World}{F:Nat→Prop}{j d:Nat}{xs:List UInt8}{k:Nat}{s:Js}{v:Value}{Fd:Nat→Prop}
theorem JAt.apn (t u:Int)(h1:Blk w j TJ #[.pointer (some ⟨d,0,none⟩),.int .i64 s.term,.int .i64 s.fZ,v])(h2:F j)(h3:aA w F TLg 10 v s.log.length (lu s.log))(h4:dZ w Fd d xs k)(h5:∀i,Fd i→F i)(h6:¬Fd j)(h7:∀g,v.ownBlock=some g→¬Fd g)(h8:∀i,F i→i<w.heap.size):
  JTo w F j d xs k ⟨t,u,s.log⟩ ((w.setCell ⟨j,1,none⟩ (.int .i64 t)).setCell ⟨j,2,none⟩ (.int .i64 u)):=by
 have hf:Fr (fun i=>i=j) w ((w.setCell ⟨j,1,none⟩ (.int .i64 t)).setCell ⟨j,2,none⟩ (.int .i64 u)):=((Fr.refl (fun i=>i=j) w).setCell (p:=⟨j,1,none⟩) (.inl rfl) _).setCell (p:=⟨j,2,none⟩) (.inl rfl) _;refine ⟨F,⟨v,Fd,(h1.aC 1 _).aC 2 _,h2,h3.fr' hf (h3.aW h1 dcd),h4.fr hf (fun i hi he=>h6 (he▸hi)),h5,h6,h7,fun i hi=>nll (h8 i hi) hf.size⟩,fun i hi=> .inl hi,hf.mono fun i hi=>hi▸h2⟩
theorem JAt.ale {v' :Value}{l:List Lg}(h1:Blk w j TJ #[.pointer (some ⟨d,0,none⟩),.int .i64 s.term,.int .i64 s.fZ,v])(h2:F j)(h3:aA w F TLg 10 v' l.length (lu l))(h4:dZ w Fd d xs k)(h5:∀i,Fd i→F i)(h6:¬Fd j)(h7:∀g,v'.ownBlock=some g→¬Fd g)(h8:∀i,F i→i<w.heap.size):
  JTo w F j d xs k ⟨s.term,s.fZ,l⟩ (w.setCell ⟨j,3,none⟩ v'):=by
 have hf:Fr (fun i=>i=j) w (w.setCell ⟨j,3,none⟩ v'):=(Fr.refl (fun i=>i=j) w).setCell (p:=⟨j,3,none⟩) (.inl rfl) _;refine ⟨F,⟨v',Fd,h1.aC 3 _,h2,h3.fr' hf (h3.aW h1 dcd),h4.fr hf (fun i hi he=>h6 (he▸hi)),h5,h6,h7,fun i hi=>nll (h8 i hi) hf.size⟩,fun i hi=> .inl hi,hf.mono fun i hi=>hi▸h2⟩
end
theorem abh {w:World}{F:Nat→Prop}{j d:Nat}{xs:List UInt8}{k:Nat}{s:Js}(h:JAt w F j d xs k s)(t v:Int):
  Calls Tryz.prog 308 #[.pointer (some ⟨j,0,none⟩),.int .i64 t,.int .i64 v] w fun e w' =>e= .returned (.int .i64 (bK s t v))∧JTo w F j d xs k (cO s t v) w' :=by
 have hself:=h.self;obtain ⟨A,c,Fd,h1,h2,h3,h4,h5,h6,h7,h8,c0,c1,c2,c3,hn⟩:=h.open_;have hset:=JAt.apn t v h1 h2 h3 h4 h5 h6 h7 h8;have f1:=h1.frozen 1;have f2:=h1.frozen 2;obtain ⟨X,hX⟩:∃X,X=bK s t v:=⟨_,rfl⟩;have hS:cO s t v=if X=0 then ⟨t,v,s.log⟩ else s:=by rw [hX];rfl
 rw [hS,←hX];unfold bK at hX;clear h h1 h2 h3 h4 h5 h6 h7 h8 hn hS;have aq8:X=0→JTo w F j d xs k (if X=0 then ⟨t,v,s.log⟩ else s) ((w.setCell ⟨j,1,none⟩ (.int .i64 t)).setCell ⟨j,2,none⟩ (.int .i64 v)):=fun e=>by rw [if_pos e];exact hset
 have aq7:X≠0→JTo w F j d xs k (if X=0 then ⟨t,v,s.log⟩ else s) w:=fun e=>by rw [if_neg e];exact hself
 clear hself hset;obtain ⟨S,hSS⟩:∃S:Js,S=if X=0 then ⟨t,v,s.log⟩ else s:=⟨_,rfl⟩
 rw [←hSS] at aq8 aq7 ⊢;clear hSS;obtain ⟨st,hst⟩:∃st,st=s.term:=⟨_,rfl⟩;obtain ⟨sv,hsv⟩:∃sv,sv=s.fZ:=⟨_,rfl⟩;rw [←hst] at c1 hX;rw [←hsv] at c2 hX;clear hst hsv;obtain ⟨ash,ak2⟩:=aN aq8 aq7;clear aq8 aq7
 by_cases g1:t<0
 ·rw [if_pos (.inl g1)] at hX
  have t1:decide (t<0)=true:=by simpa using g1
  subst hX
  go_in
  go_wp2_with fail
  go_ret
  exact ⟨rfl,ak2.out dcd⟩
 have t1:decide (t<0)=false:=by simpa using g1
 by_cases g2:1073741824<t
 ·rw [if_pos (.inr (.inl g2))] at hX
  have t2:decide (1073741824<t)=true:=by simpa using g2
  subst hX
  go_in
  go_wp2_with fail
  go_ret
  exact ⟨rfl,ak2.out dcd⟩
 have t2:decide (1073741824<t)=false:=by simpa using g2
 by_cases g3:v< -1
 ·rw [if_pos (.inr (.inr (.inl g3)))] at hX
  have t3:decide (v< -1)=true:=by simpa using g3
  subst hX
  go_in
  go_wp2_with fail
  go_ret
  exact ⟨rfl,ak2.out dcd⟩
 have t3:decide (v< -1)=false:=by simpa using g3
 by_cases g4:5≤v
 ·rw [if_pos (.inr (.inr (.inr g4)))] at hX
  have t4:decide (5≤v)=true:=by simpa using g4
  subst hX
  go_in
  go_wp2_with fail
  go_ret
  exact ⟨rfl,ak2.out dcd⟩
 have t4:decide (5≤v)=false:=by simpa using g4
 rw [if_neg oy] at hX;clear g1 g2 g3 g4
 by_cases g5:t<st
 ·rw [if_pos (.inl g5)] at hX
  have t5:decide (t<st)=true:=by simpa using g5
  subst hX
  go_in
  go_wp2_with fail
  go_ret
  exact ⟨rfl,ak2.out dcd⟩
 have t5:decide (t<st)=false:=by simpa using g5
 by_cases g6:t=st
 ·have t6:(t == st)=true:=by simpa using g6
  by_cases g7:sv= -1
  ·rw [if_neg oy] at hX
   have t7:(sv != -1)=false:=by simpa using g7
   subst hX;clear g5 g6 g7
   go_in
   go_wp2_with fail
   go_ret
   exact ⟨rfl,ash.out (by trivial)⟩
  ·have t7:(sv != -1)=true:=by simpa using g7
   by_cases g8:sv=v
   ·rw [if_neg oy] at hX
    have t8:(sv != v)=false:=by simpa using g8
    subst hX;clear g5 g6 g7 g8
    go_in
    go_wp2_with fail
    go_ret
    exact ⟨rfl,ash.out (by trivial)⟩
   ·rw [if_pos (.inr ⟨g6,g7,g8⟩)] at hX
    have t8:(sv != v)=true:=by simpa using g8
    subst hX;clear g5 g6 g7 g8
    go_in
    go_wp2_with fail
    go_ret
    exact ⟨rfl,ak2.out dcd⟩
 ·rw [if_neg oy] at hX
  have t6:(t == st)=false:=by simpa using g6
  subst hX;clear g5 g6
  go_in
  go_wp2_with fail
  go_ret
  exact ⟨rfl,ash.out (by trivial)⟩
end
theorem wT:(Tryz.prog.info? TLg).map (fun i=>(i.zero,i.size,i.bytes))=some (some (.agg #[.int .i64 0,.int .i64 0,.int .i64 0,.int .i64 0,.int .i64 0,.int .i64 0,.int .i64 0,.int .i64 0,.int .i64 0,.int .i64 0]),10,80):=by kernel_rfl
theorem JAt.still {w w' :World}{F:Nat→Prop}{j d:Nat}{xs:List UInt8}{k:Nat}{s:Js}(h:JAt w F j d xs k s)(hf:Fr No w w'):JTo w F j d xs k s w' :=⟨F,h.au hf,fun _ hi=> .inl hi,hf.mono fun _ hi=>hi.elim⟩
theorem JAt.added {w w1 w2:World}{F:Nat→Prop}{j d:Nat}{xs:List UInt8}{k:Nat}{s:Js}{v v' :Value}{Fd:Nat→Prop}{x:Lg}(h1:Blk w j TJ #[.pointer (some ⟨d,0,none⟩),.int .i64 s.term,.int .i64 s.fZ,v])(h2:F j)(h3:aA w F TLg 10 v s.log.length (lu s.log))(h4:dZ w Fd d xs k)(h5:∀i,Fd i→F i)(h6:¬Fd j)(h7:∀g,v.ownBlock=some g→¬Fd g)(h8:∀i,F i→i<w.heap.size)
  (hf:Fr No w w1) (ha:aJ w1 0 TLg 10 v s.log.length (lu s.log) x.cells 1 v' w2):
  Blk w2 j TJ #[.pointer (some ⟨d,0,none⟩),.int .i64 s.term,.int .i64 s.fZ,v]∧JTo w F j d xs k ⟨s.term,s.fZ,s.log++[x]⟩ (w2.setCell ⟨j,3,none⟩ v'):=by
 have h3' :=h3.au hf;obtain ⟨o1,-⟩:=h3'.appended ha;have hg:Fr (fun i=>v.ownBlock=some i) w1 w2:=(Fr.refl _ _).grown ha.2.1 fun q hq=> .inl hq;have hs:=hf.size;have hb1:=h1.fr hf id;have hb2:Blk w2 j TJ #[.pointer (some ⟨d,0,none⟩),.int .i64 s.term,.int .i64 s.fZ,v]:=hb1.fr hg (fun h=>h3'.aW hb1 dcd j h rfl);have hd2:dZ w2 Fd d xs k:=(h4.au hf).fr hg fun i hi h=>h7 i h hi;refine ⟨hb2,?_⟩;rw [←sw] at o1;have hjt:=JAt.ale (F:=fun i=>F i∨(i=w1.heap.size∧i<w2.heap.size)) (s:=s) (v' :=v') (l:=s.log++[x]) hb2 (.inl h2) (by rw [List.length_append];exact o1) hd2 (fun i hi=> .inl (h5 i hi)) h6 (fun g hgv h=>by
   rcases ha.2.2 with e1|e1
   ·exact h7 g (e1.symm.trans hgv) h
   ·rw [e1] at hgv
    injection hgv with hgv;have:=h8 g (h5 g h)
    omega) (fun i hi=>by
   rcases hi with hi|hi
   ·exact nll (nll (h8 i hi) hs) hg.size
   ·exact hi.2)
 obtain ⟨F',g1,g2,g3⟩:=hjt;refine ⟨F',g1,fun i hi=> ?_,?_⟩
 ·rcases g2 i hi with (h|h)|h
  ·exact .inl h
  ·exact .inr oy
  ·exact .inr (Nat.le_trans (Nat.le_trans hs hg.size) h)
 ·refine (hf.mono (G:=F) fun _ hi=>hi.elim).trans ((hg.mono (G:=fun i=>F i∨w.heap.size≤i) fun i hi=> .inl (h3.2 i hi)).trans (g3.mono (G:=fun i=>F i∨w.heap.size≤i) fun i hi=> ?_) fun i hi=> .inl hi) fun i hi=>hi
  rcases hi with h|h
  ·exact .inl h
  ·exact .inr oy
set_option maxHeartbeats 8000000 in
theorem ap6 {w:World}{F:Nat→Prop}{j d:Nat}{xs:List UInt8}{k:Nat}{s:Js}(h:JAt w F j d xs k s)(hlen:s.log.length≤4096)(t:Int)(e:En):
  Calls Tryz.prog 280 #[.pointer (some ⟨j,0,none⟩),.int .i64 t,e.v] w fun r w' =>r= .returned (.int .i64 (kX s t e))∧JTo w F j d xs k (jN s t e) w' :=by
 obtain ⟨i0,hi0,hz0,hz1,hz2⟩:=info_parts wT;have hsh:=fun V=>lZ e V;obtain ⟨X,hX⟩:∃X,X=kX s t e:=⟨_,rfl⟩;have hS:jN s t e=if X=0 then ⟨s.term,s.fZ,s.log++[⟨t,e⟩]⟩ else s:=by rw [hX];rfl
 rw [hS,←hX];unfold kX at hX;revert hsh hX;generalize fF e=b;intro hsh hX;clear hS;obtain ⟨k0,tick,te,ce,ot,ep,fr,un,n⟩:=e;unfold En.v at*;have hstill:=fun w' (hf:Fr No w w')=>h.still hf;have hta:=fun w' (hf:Fr No w w')=>wY (h.au hf) ((s.log.length:Int)-1);obtain ⟨A,c,Fd,h1,h2,h3,h4,h5,h6,h7,h8,d0,d1,d2,d3,hn⟩:=h.open_;have hjl:=h1.lt;have hcap:=h3.cap;have hput:=fun w1 v' w2 (hf:Fr No w w1) ha=>JAt.added (w2:=w2) (v' :=v') (x:=⟨t,⟨k0,tick,te,ce,ot,ep,fr,un,n⟩⟩) h1 h2 h3 h4 h5 h6 h7 h8 hf ha;have hown:=fun w' (hf:Fr No w w')=>(h3.au hf).1;obtain ⟨BB,FF⟩:=aN (Blk.new w qE #[.int .i64 k0,.int .i64 tick,.int .i64 te,.int .i64 ce,.int .i64 ot,.int .i64 ep,.int .i64 fr,.int .i64 un,.int .i64 n]) (aj w (.cells #[.int .i64 k0,.int .i64 tick,.int .i64 te,.int .i64 ce,.int .i64 ot,.int .i64 ep,.int .i64 fr,.int .i64 un,.int .i64 n] qE));obtain ⟨c0,c1,c2,c3,c4,c5,c6,c7,c8⟩:=aU BB.out;have hwr:IntKind.i64.wrap ((s.log.length:Int)-1)=(s.log.length:Int)-1:=IntWalk.i64_in _ oy;clear h h2 h3 h4 h5 h6 h7 h8 hn;generalize dX s.log ((s.log.length:Int)-1)=lt at*;obtain ⟨HSH,lG,HTA,ags,HOWN,H1⟩:=oK hsh hstill hta hput hown h1;clear hsh hstill hta hput hown h1
 by_cases g1:t<1
 ·rw [if_pos (.inl g1)] at hX
  have t1:decide (t<1)=true:=by simpa using g1
  subst hX
  go_in
  go_wp2_with fail
  go_ret
  exact ⟨rfl,lG.out _ FF.out⟩
 have t1:decide (t<1)=false:=by simpa using g1
 by_cases g2:1073741824<t
 ·rw [if_pos (.inr (.inl g2))] at hX
  have t2:decide (1073741824<t)=true:=by simpa using g2
  subst hX
  go_in
  go_wp2_with fail
  go_ret
  exact ⟨rfl,lG.out _ FF.out⟩
 have t2:decide (1073741824<t)=false:=by simpa using g2
 have HX:=O hX;clear hX
 go_in
 go_wp2_with fail
 refine (HSH.out _).mono ?_;rintro r w5 ⟨rfl,f5⟩;replace FF:=O (FF.out.ah f5);replace BB:=O (BB.out.fr f5 id);clear f5 c0 c1 c2 c3 c4 c5 c6 c7 c8 d0 d1 d2 d3;obtain ⟨c0,c1,c2,c3,c4,c5,c6,c7,c8⟩:=aU BB.out;have hb5:=H1.out.fr FF.out id;have d1:w5.cell? ⟨j,1,none⟩=some (.int .i64 s.term):=hb5.cell 1;have d3:w5.cell? ⟨j,3,none⟩=some (.slice A s.log.length c):=hb5.cell 3;have awm:=hb5.lt;clear hb5
 cases b
 ·have hX:=HX.out
  rw [if_pos (.inr (.inr rfl))] at hX;subst hX;clear HX
  go_wp2_with fail
  go_ret
  exact ⟨rfl,lG.out _ FF.out⟩
 have hX:=HX.out;rw [if_neg (by simp;omega)] at hX;clear HX
 by_cases g3:s.term<t
 ·rw [if_pos (.inl g3)] at hX
  have t3:decide (s.term<t)=true:=by simpa using g3
  subst hX
  go_wp2_with fail
  go_ret
  exact ⟨rfl,lG.out _ FF.out⟩
 have t3:decide (s.term<t)=false:=by simpa using g3
 have HX:=O hX;clear hX
 go_wp2_with fail
 refine (HTA.out _ FF.out).mono ?_;rintro r w6 ⟨rfl,f6⟩;replace FF:=O (FF.out.ah f6);replace BB:=O (BB.out.fr f6 id);clear f6 c0 c1 c2 c3 c4 c5 c6 c7 c8 d1 d3 awm;obtain ⟨c0,c1,c2,c3,c4,c5,c6,c7,c8⟩:=aU BB.out;have hb5:=H1.out.fr FF.out id;have d3:w6.cell? ⟨j,3,none⟩=some (.slice A s.log.length c):=hb5.cell 3;have q3:=hb5.frozen 3;have ayr:=hb5.lt;have hel:=BB.out.lt;clear hb5;have hX:=HX.out;clear HX
 by_cases g4:t<lt
 ·rw [if_pos (.inr g4)] at hX
  have t4:decide (t<lt)=true:=by simpa using g4
  subst hX
  go_wp2_with fail
  go_ret
  exact ⟨rfl,lG.out _ FF.out⟩
 have t4:decide (t<lt)=false:=by simpa using g4
 rw [if_neg oy] at hX
 by_cases g5:4096≤s.log.length
 ·rw [if_pos g5] at hX
  have t5:decide ((4096:Int)≤(s.log.length:Int))=true:=by simp;omega
  subst hX
  go_wp2_with fail
  go_ret
  exact ⟨rfl,lG.out _ FF.out⟩
 have t5:decide ((4096:Int)≤(s.log.length:Int))=false:=by simp;omega
 rw [if_neg g5] at hX;subst hX
 go_wp2_with fail
 go_region_law (refine aI _ (by rfl) (.tmp 46) (.tmp 50) _ (by rfl) 0 TLg i0 _ 10 80 Tryz.underlying316 hi0 hz0 hz1 hz2 rfl dcd (.slice A s.log.length c) s.log.length (lu s.log) (by rfl) (HOWN.out _ ((FF.out.drew).alloc _)) (w6.heap.size+1) (some ⟨w6.heap.size,0,none⟩) 1 1 (Lg.cells ⟨t,⟨k0,tick,te,ce,ot,ep,fr,un,n⟩⟩) (by rfl) (fun h=>by cases h) (Rd.new w6.drew _ TLg rfl) rfl (by simp [Lg.cells,Value.oneCell']) mxl oy (Nat.zero_le _) ?_;intro v1 w1 happ;obtain ⟨A4,c4,rfl,n4⟩:=ay happ.1;clear n4;obtain ⟨hbj,hjt⟩:=ags.out _ _ w1 ((FF.out.drew).alloc _) happ;have x3:w1.cell? ⟨j,3,none⟩=some (.slice A s.log.length c):=hbj.cell 3;have y3:=hbj.frozen 3;have HJT:=O hjt;clear happ hbj hjt)
 all_goals
  go_wp2_with fail
  go_ret
  exact ⟨rfl,HJT.out⟩
theorem JTo.after {w w1 w' :World}{F:Nat→Prop}{j d:Nat}{xs:List UInt8}{k:Nat}{s:Js}(hf:Fr No w w1)(h:JTo w1 F j d xs k s w'):JTo w F j d xs k s w' :=by
 obtain ⟨F',h1,h2,h3⟩:=h;exact ⟨F',h1,fun i hi=>(h2 i hi).imp id (Nat.le_trans hf.size),(hf.mono (G:=F) fun _ hi=>hi.elim).trans h3 fun i hi=> .inl hi⟩
set_option maxHeartbeats 1000000 in
theorem sF (A0:Option Addr)(m c0:Nat)(q:List Int)(w:World)(B0:Nat)(hA0:A0=none→m=0)(hq:q.length=m)(hr0:Rd w B0 A0 (q.map iv))(hB0:B0≤w.heap.size)(hb:∀x∈q,-9223372036854775808≤x∧x≤9223372036854775807)(hsz:m≤1000):
  Calls Tryz.prog 282 #[.slice A0 m c0] w fun e w' =>∃A' c',e= .returned (.slice A' (dA q).length c')∧Own w' (fun i=>w.heap.size≤i) 5 (.slice A' (dA q).length c') ((dA q).map bv)∧Fr No w w' :=by
 obtain ⟨HA0,HQ,HR0,HB⟩:=fV hA0 hq hr0 hb;clear hA0 hq hr0 hb
 go_in
 go_wp2_with fail
 go_loopw [3,8] (fun o i wr=>∃(A' :Option Addr) (c' k:Nat) (p:List UInt8),k≤m∧i= .int .i64 k∧p=dA (q.take k)∧p.length≤10*k∧o= .slice A' p.length c'∧Own wr (fun i=>w.heap.size≤i) 5 (.slice A' p.length c') (p.map bv)∧Fr No w wr) (fun _ i _=>m-(intOf i).toNat)
 case atStart=>exact ⟨none,0,0,[],Nat.zero_le _,rfl,by simp [dA],by simp,rfl,Own.nil _ _ _,Fr.refl _ _⟩
 case round=>
  obtain ⟨A',c',k,p,hk,rfl,hp,hpl,rfl,ho,hf⟩:=hrel;obtain ⟨HP,O3,F3⟩:=bC hp ho hf;have hs3:w.heap.size≤wr.heap.size:=hf.size;clear hp ho hf
  by_cases hlt:k<m
  ·obtain ⟨b,off,rfl,_,hc⟩:=HR0.out.at_ (by rw [List.length_map,HQ.out];omega)
   have hkl:k<q.length:=by rw [HQ.out];exact hlt
   have hck:=HR0.out.au F3.out hB0|>.at_ (by rw [List.length_map,HQ.out];omega);obtain ⟨b',off',hbe,_,hc'⟩:=hck;injection hbe with hbe;injection hbe with hb1 hb2;subst hb1 hb2;have hck:=hc' k (by rw [List.length_map];exact hkl);simp only [List.getElem_map] at hck;obtain ⟨HS,HX⟩:=aN (List.take_succ_eq_append_getElem hkl) (HB.out q[k] (List.getElem_mem hkl));have uO:=bD _ (dG q[k] HX.out.1 HX.out.2);generalize q[k]=x at*;clear hc hc'
   go_wp2_with fail
   refine (gF A' p.length c' x p _ _ O3.out.len.2 rfl O3.out.rd (Nat.le_refl _) HX.out.1 HX.out.2 oy).mono ?_;rintro e w4 ⟨A4,c4,rfl,o4,f4⟩;obtain ⟨O4,F4⟩:=aN (o4.mono (G:=fun i=>w.heap.size≤i) fun i hi=>by omega) (F3.out.ah f4);clear o4 f4
   go_wp2_with fail
   go_roundw
   case rel=>
    refine ⟨A4,c4,k+1,p++fM (bW x),by omega,by go_num,by rw [HS.out,dL,HP.out],by rw [List.length_append];omega,?_,?_,F4.out⟩
    ·rw [List.length_append]
    ·rw [List.length_append];exact O4.out
   case measure=>simp [intOf];omega
  ·have hpe:p=dA q:=by rw [HP.out,List.take_of_length_le (by rw [HQ.out];omega)]
   subst hpe
   go_wp2_with fail
   go_ret
   exact ⟨A',c',rfl,O3.out,F3.out⟩
set_option maxHeartbeats 2000000 in
theorem abg {w:World}{F:Nat→Prop}{j d:Nat}{xs:List UInt8}{k:Nat}{s:Js}(h:JAt w F j d xs k s)(A:Option Addr)(m c:Nat)(r:List UInt8)(B:Nat)(hA:A=none→m=0)(hr:Rd w B A (r.map bv))(hm:r.length=m)(hB:B≤w.heap.size)(hm2:m≤65536)(hsz:xs.length+18+m≤140737488355328):
  Calls Tryz.prog 281 #[.pointer (some ⟨j,0,none⟩),.slice A m c] w fun e w' =>e= .returned (.tuple #[])∧JTo w F j d (xs++nN 8 r) k s w' :=by
 obtain ⟨A1,c1,Fd,h1,h2,h3,h4,h5,h6,h7,h8,d0,d1,d2,d3,hn⟩:=h.open_;have hjl:=h1.lt;have hpl:=mF 8 r oy;have hput:=fun V (hf:Fr No w V)=>aaq none 0 0 8 A m c [] r V B (fun _=>rfl) rfl (.inl rfl) hA hm (hr.au hf hB) (Nat.le_trans hB hf.size) oy hm2;simp only [List.nil_append] at hput;have atz:=fun V (hf:Fr No w V) A2 c2 B2 (h:Own V (fun i=>B2≤i) 5 (.slice A2 (nN 8 r).length c2) ((nN 8 r).map bv))=>vB V Fd d xs k (h4.au hf) A2 (nN 8 r).length c2 (nN 8 r) V.heap.size h.len.2 h.rd rfl oy;have hfin:=fun V V' (hf:Fr No w V) (hd:pI V Fd d (xs++nN 8 r) k V')=>JAt.disk (h1.fr hf id) h2 (h3.au hf) h5 h6 h7 (fun i hi=>nll (h8 i hi) hf.size) hd;have hcell:=fun V V' (hf:Fr No w V) (hd:pI V Fd d (xs++nN 8 r) k V')=>(((h1.fr hf id).fr (let ⟨_,_,_,g⟩:=hd;g:Fr Fd V V') h6).cell 0:V'.cell? ⟨j,0,none⟩=some (.pointer (some ⟨d,0,none⟩)));have am4:=fun V (hf:Fr No w V)=>((h1.fr hf id).cell 0:V.cell? ⟨j,0,none⟩=some (.pointer (some ⟨d,0,none⟩)));clear h h1 h2 h3 h4 h5 h6 h7 h8 hn d1 d2 d3;generalize nN 8 r=R at*;obtain ⟨ags,axx,eu,tu,ar8⟩:=jq hput atz hfin hcell am4;clear hput atz hfin hcell am4
 go_in
 go_wp2_with fail
 go_region_held3 (fun V=>V.cell? ⟨j,0,none⟩=some (.pointer (some ⟨d,0,none⟩))) (first|exact q2|exact q1|exact d0) (first
  |(go_at_call 311;refine (ags.out _ (Fr.refl No w).drew).mono ?_;rintro e w5 ⟨A5,c5,rfl,o5,f5⟩;have FF:=O ((Fr.refl No w).drew.ah f5);have q1:=ar8.out _ FF.out;have O5:=O o5;clear o5 f5)
  |(go_at_call 310;refine (axx.out _ FF.out _ _ _ O5.out).mono ?_;rintro e w6 ⟨rfl,d6⟩;have q2:=tu.out _ _ FF.out d6;have D6:=O (JTo.after FF.out (eu.out _ _ FF.out d6));clear d6))
 go_wp2_with fail
 go_end0
 exact ⟨rfl,D6.out⟩
theorem amb {w:World}{F:Nat→Prop}{j d:Nat}{xs:List UInt8}{k:Nat}{s:Js}(h:JAt w F j d xs k s):
  Calls Tryz.prog 256 #[.pointer (some ⟨j,0,none⟩)] w fun e w' =>e= .returned (.tuple #[])∧JTo w F j d xs xs.length s w' :=by
 obtain ⟨A1,c1,Fd,h1,h2,h3,h4,h5,h6,h7,h8,d0,d1,d2,d3,hn⟩:=h.open_;have hfin:=fun V' (hd:pI w Fd d xs xs.length V')=>JAt.disk h1 h2 h3 h5 h6 h7 h8 hd;have hsy:=acp w Fd d xs k h4;clear h h1 h2 h3 h4 h5 h6 h7 h8 hn d1 d2 d3;obtain ⟨eu,HSY⟩:=aN hfin hsy;clear hfin hsy
 go_in
 go_wp2_with fail
 refine HSY.out.mono ?_;rintro e w1 ⟨rfl,d1⟩;have D1:=O (eu.out _ d1);clear d1
 go_wp2_with fail
 go_end0
 exact ⟨rfl,D1.out⟩
theorem aal {s:Js}{t v:Int}(h:bK s t v=0):0≤t∧t≤1073741824∧-1≤v∧v<5:=by
 unfold bK at h
 by_cases hc:t<0∨1073741824<t∨v< -1∨5≤v
 ·rw [if_pos hc] at h
  exact absurd h dcd
 ·omega
theorem qD {s:Js}{t:Int}{e:En}(h:kX s t e=0):1≤t∧t≤1073741824∧fF e=true∧t≤s.term∧dX s.log ((s.log.length:Int)-1)≤t∧s.log.length<4096:=by
 unfold kX at h
 by_cases hc:t<1∨1073741824<t∨fF e=false
 ·rw [if_pos hc] at h
  exact absurd h dcd
 ·rw [if_neg hc] at h
  by_cases hc2:s.term<t∨t<dX s.log ((s.log.length:Int)-1)
  ·rw [if_pos hc2] at h
   exact absurd h dcd
  ·rw [if_neg hc2] at h
   by_cases hc3:4096≤s.log.length
   ·rw [if_pos hc3] at h
    exact absurd h dcd
   ·have hs:fF e=true:=by
     cases hq:fF e
     ·exact absurd (Or.inr (Or.inr hq)) hc
     ·rfl
    exact ⟨by omega,by omega,hs,by omega,by omega,by omega⟩
set_option maxHeartbeats 2000000 in
theorem abj {w:World}{F:Nat→Prop}{j d:Nat}{xs:List UInt8}{k:Nat}{s:Js}(h:JAt w F j d xs k s)(t v:Int)(hsz:xs.length+100≤140737488355328):
  Calls Tryz.prog 277 #[.pointer (some ⟨j,0,none⟩),.int .i64 t,.int .i64 v] w fun e w' =>e= .returned (.int .i64 (bK s t v))∧JTo w F j d (if bK s t v=0 then xs++nN 8 (ag0 t v) else xs) k (cO s t v) w' :=by
 have hset:=abh h t v;have hbd:=fun hx=>aal (s:=s) (t:=t) (v:=v) hx;revert hset hbd;generalize bK s t v=X;generalize cO s t v=S;intro hset hbd;clear h;obtain ⟨Y,hY⟩:∃Y,Y=if X=0 then xs++nN 8 (ag0 t v) else xs:=⟨_,rfl⟩
 rw [←hY];obtain ⟨aj9,HY⟩:=aN hset hY;clear hset hY
 go_in
 go_wp2_with fail
 refine aj9.out.mono ?_;rintro e w1 ⟨rfl,j1⟩;clear aj9
 by_cases hx:X=0
 ·subst hx
  have hb:=hbd rfl;obtain ⟨F1,a1,i1,f1⟩:=j1;have hq:∀x∈[(1:Int),t,v],-9223372036854775808≤x∧x≤9223372036854775807:=by
   intro x hx
   simp at hx
   omega
  have hrl:=jc _ hq;simp only [List.length_cons,List.length_nil] at hrl;clear hbd;obtain ⟨A1,I1,F1,HQ⟩:=fV a1 i1 f1 hq;clear a1 i1 f1 hq;have hy:Y=xs++nN 8 (dA [1,t,v]):=by rw [HY.out,if_pos rfl];rfl
  clear HY;have HY:=O hy;clear hy
  go_wp2_with fail
  refine (sF (some ⟨w1.heap.size,0,none⟩) 3 3 [1,t,v] _ (w1.heap.size+1) (fun h=>by cases h) rfl (Rd.new w1 [.int .i64 1,.int .i64 t,.int .i64 v] 3 rfl) (by simp) HQ.out oy).mono ?_;rintro e w2 ⟨A2,c2,rfl,o2,f2⟩;obtain ⟨F2,O2⟩:=aN ((aj w1 (.cells #[.int .i64 1,.int .i64 t,.int .i64 v] 3)).ah f2) o2;clear o2 f2
  go_wp2_with fail
  refine (abg (A1.out.au F2.out) A2 _ c2 (dA [1,t,v]) w2.heap.size O2.out.len.2 O2.out.rd rfl (Nat.le_refl _) oy oy).mono ?_;rintro e w3 ⟨rfl,j3⟩;have J3:=O (JTo.after F2.out j3);clear j3
  go_wp2_with fail
  go_ret
  refine ⟨rfl,?_⟩;rw [HY.out];obtain ⟨F',g1,g2,g3⟩:=J3.out;exact ⟨F',g1,fun i hi=>(g2 i hi).elim (fun h=>I1.out i h) (fun h=> .inr (Nat.le_trans F1.out.size h)),F1.out.trans g3 I1.out⟩
 ·have b1:(X == 0)=false:=by simpa using hx
  have b2:(X != 0)=true:=by simpa using hx
  have hy:Y=xs:=by rw [HY.out,if_neg hx]
  clear hbd HY;obtain ⟨J1,HX,HY⟩:=bC j1 hx hy;clear j1 hx hy
  go_wp2_with fail
  go_ret
  exact ⟨rfl,by rw [HY.out];exact J1.out⟩
theorem wZ {w:World}{F:Nat→Prop}{j d:Nat}{xs:List UInt8}{k:Nat}{s:Js}(h:JAt w F j d xs k s)(hlen:s.log.length≤4096)(t:Int)(e:En)(he:e.ok)(hsz:xs.length+200≤140737488355328):
  Calls Tryz.prog 255 #[.pointer (some ⟨j,0,none⟩),.int .i64 t,e.v] w fun r w' =>r= .returned (.int .i64 (kX s t e))∧JTo w F j d (if kX s t e=0 then xs++nN 8 (aev t e) else xs) k (jN s t e) w' :=by
 obtain ⟨i0,hi0,hz0,hz1,hz2⟩:=info_parts iH;have hadd:=fun W (hf:Fr No w W)=>ap6 (h.au hf) hlen t e;have hbd:=fun hx=>qD (s:=s) (t:=t) (e:=e) hx;have hlt:=h.lt;have hby:=fun V=>ac3 e V he;have hbl:=aci e he;obtain ⟨X,hX⟩:∃X,X=kX s t e:=⟨_,rfl⟩;obtain ⟨S,hS⟩:∃S,S=jN s t e:=⟨_,rfl⟩;rw [←hX] at hbd;simp only [←hX,←hS] at hadd;rw [←hX,←hS];clear hX hS h he;obtain ⟨Y,hY⟩:∃Y,Y=if X=0 then xs++nN 8 (aev t e) else xs:=⟨_,rfl⟩
 rw [←hY];unfold aev at hY;generalize enB e=EB at*;obtain ⟨k0,tick,te,ce,ot,ep,fr,un,n⟩:=e;unfold En.v at*;obtain ⟨BB,FF⟩:=aN (Blk.new w qE #[.int .i64 k0,.int .i64 tick,.int .i64 te,.int .i64 ce,.int .i64 ot,.int .i64 ep,.int .i64 fr,.int .i64 un,.int .i64 n]) (aj w (.cells #[.int .i64 k0,.int .i64 tick,.int .i64 te,.int .i64 ce,.int .i64 ot,.int .i64 ep,.int .i64 fr,.int .i64 un,.int .i64 n] qE));obtain ⟨c0,c1,c2,c3,c4,c5,c6,c7,c8⟩:=aU BB.out;obtain ⟨W0,hW0⟩:∃W0,W0=w.alloc (.cells #[.int .i64 k0,.int .i64 tick,.int .i64 te,.int .i64 ce,.int .i64 ot,.int .i64 ep,.int .i64 fr,.int .i64 un,.int .i64 n] qE):=⟨_,rfl⟩;have hs0:W0.heap.size=w.heap.size+1:=by rw [hW0];simp
 obtain ⟨aph,HY,HBY,HLT⟩:=fV hadd hY hby hlt;clear hadd hY hby hlt
 go_in
 go_wp2_with fail
 rw [←hW0] at BB FF ⊢;refine (aph.out _ FF.out).mono ?_;rintro r W ⟨rfl,j1⟩;clear aph c0 c1 c2 c3 c4 c5 c6 c7 c8 hW0
 by_cases hx:X=0
 ·subst hx
  have hb:=hbd rfl;obtain ⟨G1,a1,i1,f1⟩:=j1;obtain ⟨g,hg⟩:∃g,g=w.heap.size:=⟨_,rfl⟩;rw [←hg] at BB ⊢;have hg1:¬G1 g:=by
   intro hh
   rcases i1 g hh with h|h
   ·have:=HLT.out g h
    omega
   ·omega
  have hg0:¬F g:=by
   intro hh;have:=HLT.out g hh
   omega
  have b5:Blk W g qE #[.int .i64 k0,.int .i64 tick,.int .i64 te,.int .i64 ce,.int .i64 ot,.int .i64 ep,.int .i64 fr,.int .i64 un,.int .i64 n]:=BB.out.fr f1 hg0;have hq:∀x∈[(2:Int),t],-9223372036854775808≤x∧x≤9223372036854775807:=by
   intro x hx
   simp at hx
   omega
  have hrl:=jc _ hq;simp only [List.length_cons,List.length_nil] at hrl;have hS:∀V,Fr G1 W V→V.cell? ⟨g,0,none⟩=some (.int .i64 k0)∧V.cell? ⟨g,1,none⟩=some (.int .i64 tick)∧V.cell? ⟨g,2,none⟩=some (.int .i64 te)∧V.cell? ⟨g,3,none⟩=some (.int .i64 ce)∧V.cell? ⟨g,4,none⟩=some (.int .i64 ot)∧V.cell? ⟨g,5,none⟩=some (.int .i64 ep)∧V.cell? ⟨g,6,none⟩=some (.int .i64 fr)∧V.cell? ⟨g,7,none⟩=some (.int .i64 un)∧V.cell? ⟨g,8,none⟩=some (.int .i64 n):=fun V hV=>⟨(b5.fr hV hg1).cell 0,(b5.fr hV hg1).cell 1,(b5.fr hV hg1).cell 2,(b5.fr hV hg1).cell 3,(b5.fr hV hg1).cell 4,(b5.fr hV hg1).cell 5,(b5.fr hV hg1).cell 6,(b5.fr hV hg1).cell 7,(b5.fr hV hg1).cell 8⟩;have hy:Y=xs++nN 8 (dA [2,t]++EB):=by rw [HY.out,if_pos rfl]
  have f2:=FF.out;clear hbd HY BB b5 hg1 hg0 hg FF;obtain ⟨A1,I1,F1,HQ,HS,HY,F2⟩:=jo a1 i1 f1 hq hS hy f2;clear a1 i1 f1 hq hS hy f2;have HSS:=HS
  go_wp2_with fail
  generalize hIN:dA [2,t]=IN at*;refine wp_region_held_drew (S:=fun V=>V.cell? ⟨g,0,none⟩=some (.int .i64 k0)∧V.cell? ⟨g,1,none⟩=some (.int .i64 tick)∧V.cell? ⟨g,2,none⟩=some (.int .i64 te)∧V.cell? ⟨g,3,none⟩=some (.int .i64 ce)∧V.cell? ⟨g,4,none⟩=some (.int .i64 ot)∧V.cell? ⟨g,5,none⟩=some (.int .i64 ep)∧V.cell? ⟨g,6,none⟩=some (.int .i64 fr)∧V.cell? ⟨g,7,none⟩=some (.int .i64 un)∧V.cell? ⟨g,8,none⟩=some (.int .i64 n)) (by kernel_rfl) (HSS.out _ ((Fr.refl G1 W).drew)) (fun hHeld=> ?_);refine wpAnyH_take (i:=0) (v:= ?_) rfl (by kernel_rfl) (by kernel_rfl) (by kernel_rfl) (fun _ _ _ h=>h) (Or.inl ⟨by rfl,?_⟩) (by assumption) ?_
  rotate_left
  ·(intro w hSw;(try dsimp only at hSw);go_simp)<;>with_reducible rfl
  simp only [Act.put,List.setIfInBounds_toArray,List.set_cons_zero,List.set_cons_succ,List.getElem_toArray,List.getElem_cons_zero];refine wpAnyH_take (i:=1) (v:= ?_) rfl (by kernel_rfl) (by kernel_rfl) (by kernel_rfl) (fun _ _ _ h=>h) (Or.inl ⟨by rfl,?_⟩) (by assumption) ?_
  rotate_left
  ·(intro w hSw;(try dsimp only at hSw);go_simp)<;>with_reducible rfl
  simp only [Act.put,List.setIfInBounds_toArray,List.set_cons_zero,List.set_cons_succ,List.getElem_toArray,List.getElem_cons_zero,List.getElem_cons_succ];refine wpAnyH_take (i:=4) (v:= ?_) rfl (by kernel_rfl) (by kernel_rfl) (by kernel_rfl) (fun _ _ _ h=>h) (Or.inl ⟨by rfl,?_⟩) (by assumption) ?_
  rotate_left
  ·(intro w hSw;(try dsimp only at hSw);go_simp)<;>with_reducible rfl
  simp only [Act.put,List.setIfInBounds_toArray,List.set_cons_zero,List.set_cons_succ,List.getElem_toArray,List.getElem_cons_zero,List.getElem_cons_succ];refine wpAnyH_ready (rs:=[2]) (by kernel_rfl) (by simp) (AllReadyH.cons rfl (fun K hK=> ?_) AllReadyH.nil)
  go_simp
  clear hHeld;refine hK.out _ _ (HSS.out _ (((Fr.refl G1 W).drew).alloc _)) (fun hHeld=> ?_);clear hK K
  try simp only [Act.put,List.setIfInBounds_toArray,List.set_cons_zero,List.set_cons_succ,List.getElem_toArray,List.getElem_cons_zero,List.getElem_cons_succ]
  refine wpAnyH_ready (rs:=[3]) (by kernel_rfl) (by simp) (AllReadyH.cons rfl (fun K hK=> ?_) AllReadyH.nil)
  go_simp
  refine (sF (some ⟨W.heap.size,0,none⟩) 2 2 [2,t] _ (W.heap.size+1) (fun h=>by cases h) rfl (Rd.new W.drew [.int .i64 2,.int .i64 t] 3 rfl) (by simp) HQ.out oy).mono ?_;rintro e w4 ⟨A4,d4,rfl,o4,f4⟩;rw [hIN] at o4 ⊢;obtain ⟨q4,O4⟩:=aN ((((Fr.refl No W).drew).alloc (.cells #[.int .i64 2,.int .i64 t] 3)).ah f4) (o4.mono (G:=fun i=>W.heap.size≤i) fun i hi=>by simp at hi;omega);clear o4 f4
  go_wp2_with fail
  clear hHeld;refine hK.out _ _ (HSS.out _ (q4.out.mono fun _ h=>h.elim)) (fun hHeld=> ?_);clear hK K
  try simp only [Act.put,List.setIfInBounds_toArray,List.set_cons_zero,List.set_cons_succ,List.getElem_toArray,List.getElem_cons_zero,List.getElem_cons_succ]
  refine wpAnyH_ready (rs:=[5]) (by kernel_rfl) (by simp) (AllReadyH.cons rfl (fun K hK=> ?_) AllReadyH.nil)
  go_simp
  refine (HBY.out _).mono ?_;rintro e w5 ⟨A5,d5,rfl,o5,f5⟩;obtain ⟨q5,P4,O5⟩:=bC (q4.out.ah f5) (O4.out.au f5) o5;clear o5 f5 q4 O4
  go_wp2_with fail
  clear hHeld;refine hK.out _ _ (HSS.out _ (q5.out.mono fun _ h=>h.elim)) (fun hHeld=> ?_);clear hK K
  try simp only [Act.put,List.setIfInBounds_toArray,List.set_cons_zero,List.set_cons_succ,List.getElem_toArray,List.getElem_cons_zero,List.getElem_cons_succ]
  refine wpAnyH_ready (rs:=[6]) (by kernel_rfl) (by simp) (AllReadyH.cons rfl (fun K hK=> ?_) AllReadyH.nil);refine nQ _ (by rfl) (.tmp 18) (.tmp 20) _ (by rfl) 0 5 i0 _ 1 Tryz.underlying211 hi0 hz0 hz1 hz2 rfl (.slice A4 IN.length d4) IN.length (IN.map bv) (by rfl) (P4.out.own (by rw [List.length_map])) w5.heap.size A5 EB.length d5 (EB.map bv) (by rfl) O5.out.len.2 O5.out.rd (by rw [List.length_map]) (nG _) mxl oy (Nat.zero_le _) ?_;intro v6 w6 happ;obtain ⟨o6,f6⟩:=P4.out.appended (by rw [List.length_map]) (by rw [List.length_map]) happ;rw [←List.map_append] at o6;obtain ⟨A6,d6,rfl,n6⟩:=o6.form;rw [List.length_map,List.length_append] at o6 ⊢;obtain ⟨q6,O6⟩:=aN (q5.out.aD f6 fun i hi=>hi) o6;clear happ o6 f6 n6 P4 O5 q5 hHeld;refine hK.out _ _ (HSS.out _ (q6.out.mono fun _ h=>h.elim)) (fun hHeld=> ?_);clear hK K
  try simp only [Act.put,List.setIfInBounds_toArray,List.set_cons_zero,List.set_cons_succ,List.getElem_toArray,List.getElem_cons_zero,List.getElem_cons_succ]
  refine wpAnyH_ready (rs:=[7]) (by kernel_rfl) (by simp) (AllReadyH.cons rfl (fun K hK=> ?_) AllReadyH.nil)
  go_simp
  refine (abg (A1.out.au q6.out) A6 (IN.length+EB.length) d6 (IN++EB) w6.heap.size O6.out.len.2 O6.out.rd List.length_append (Nat.le_refl _) oy oy).mono ?_;rintro e w7 ⟨rfl,j7⟩;have q7:Hid (Fr G1 W w7):=O (let ⟨_,_,_,g⟩:=JTo.after q6.out j7;g);have J7:=O (JTo.after q6.out j7);clear j7
  go_wp2_with fail
  clear hHeld;refine hK.out _ _ (HSS.out _ q7.out) (fun hHeld=> ?_);clear hK K
  try simp only [Act.put,List.setIfInBounds_toArray,List.set_cons_zero,List.set_cons_succ,List.getElem_toArray,List.getElem_cons_zero,List.getElem_cons_succ]
  refine wpAnyH_done (by kernel_rfl) ?_ _
  go_wp2_with fail
  go_ret
  refine ⟨rfl,?_⟩;rw [HY.out];obtain ⟨F',g1,g2,g3⟩:=J7.out;refine JTo.after F2.out ⟨F',g1,fun i hi=>(g2 i hi).elim (fun h=>I1.out i h) (fun h=> .inr (Nat.le_trans F1.out.size h)),F1.out.trans g3 I1.out⟩
 ·have b1:(X == 0)=false:=by simpa using hx
  have b2:(X != 0)=true:=by simpa using hx
  have hy:Y=xs:=by rw [HY.out,if_neg hx]
  have j2:=JTo.after FF.out j1;clear hbd HY j1 FF BB;obtain ⟨J2,HX,HY⟩:=bC j2 hx hy;clear j2 hx hy
  go_wp2_with fail
  go_ret
  exact ⟨rfl,by rw [HY.out];exact J2.out⟩
theorem mh {s:Js}{t v:Int}(h:bK s t v≠0):cO s t v=s:=by unfold cO;rw [if_neg h]
theorem jM {s:Js}{t:Int}{e:En}(h:kX s t e≠0):jN s t e=s:=by unfold jN;rw [if_neg h]
structure Ms where
 kind:Int
 from_:Int
 to_:Int
 term:Int
 index:Int
 prev:Int
 commit:Int
 ok:Bool
 es:List Lg
structure Rs where
 js:Js
 id:Nat
 n:Nat
 role:Int
 commit:Nat
 gW:Nat
 next:Nat→Nat
 qI:Nat→Nat
def gy (id n:Nat):Rs:=⟨abf,id,n,1,0,0,fun _=>0,fun _=>0⟩
def lastT (l:List Lg):Int:=dX l ((l.length:Int)-1)
def others (id n:Nat):List Nat:=(List.range n).filter (·!= id)
def Rs.fZ (r:Rs)(dst:Nat):Ms:=⟨1,r.id,dst,r.js.term,r.js.log.length,lastT r.js.log,0,false,[]⟩
def Rs.app (r:Rs)(dst:Nat):Ms:=⟨3,r.id,dst,r.js.term,r.next dst,dX r.js.log ((r.next dst:Int)-1),r.commit,false,r.js.log.drop (r.next dst)⟩
def Rs.nO (r:Rs):List Ms:=(others r.id r.n).map r.app
def Rs.lead (r:Rs):Rs:={r with role:=3,next:=fun _=>r.js.log.length,qI:=fun _=>0}
def Rs.stores (r:Rs)(m:Nat):Nat→Nat
 |0=>1
 |k+1=>r.stores m k+if k≠r.id∧m≤r.qI k then 1 else 0
def Rs.pE (r:Rs):Nat→Nat
 |0=>r.commit
 |m+1=>if m+1≤r.commit then r.commit else if dX r.js.log (m:Int)=r.js.term∧r.n<2*r.stores (m+1) r.n then m+1 else r.pE m
def Rs.advance (r:Rs):Rs:={r with commit:=r.pE r.js.log.length}
def aut (v:Nat):Nat→Nat
 |0=>0
 |k+1=>aut v k+if v.testBit k then 1 else 0
def Rs.bB (r:Rs):Rs×List Ms:=
 if 1073741824≤r.js.term then (r,[]) else
 if r.n=1 then (({r with js:=⟨r.js.term+1,r.id,r.js.log⟩,role:=2,gW:=2 ^ r.id}:Rs).lead,[]) else
 (({r with js:=⟨r.js.term+1,r.id,r.js.log⟩,role:=2,gW:=2 ^ r.id}:Rs),(others r.id r.n).map ({r with js:=⟨r.js.term+1,r.id,r.js.log⟩,role:=2,gW:=2 ^ r.id}:Rs).fZ)
def Rs.proposed (r:Rs)(e:En):Rs:=({r with js:=jN r.js r.js.term e}:Rs).advance
def Rs.kJ (r:Rs)(e:En):Int:=if r.role≠3 then 4 else kX r.js r.js.term e
def Rs.propose (r:Rs)(e:En):Rs×List Ms:=if r.kJ e=0 then (r.proposed e,(r.proposed e).nO) else (r,[])
def Rs.axc (r:Rs):List Ms:=if r.role≠3 then [] else r.nO
def chainB (hi:Int):Int→List Lg→Bool
 |_,[]=>true
 |low,x :: l=>fF x.e && (decide (low≤x.term) && (decide (x.term≤hi) && chainB hi x.term l))
def aiy (m:Ms):Bool:=((m.prev == 0) == (m.index == 0)) && (decide (m.index+m.es.length≤4096) && chainB m.term (max 1 m.prev) m.es)
def Rs.aix (r:Rs)(m:Ms):Bool:=
 decide (m.to_=r.id∧m.from_≠r.id∧0≤m.from_∧m.from_<r.n∧1≤m.term∧m.term≤1073741824∧0≤m.index∧m.index≤4096∧0≤m.prev∧m.prev≤m.term∧0≤m.commit∧m.commit≤4096)
def Rs.proper (r:Rs)(m:Ms):Bool:=r.aix m && (decide (m.kind=1∨m.kind=2∨m.kind=4) || (decide (m.kind=3) && aiy m))
def Rs.meets (r:Rs)(t:Int):Rs:=if r.js.term<t then {r with js:=⟨t,-1,r.js.log⟩,role:=1} else r
def Rs.grants (r:Rs)(m:Ms):Bool:=
 decide (m.term=r.js.term∧(r.js.fZ= -1∨r.js.fZ=m.from_)∧(lastT r.js.log<m.prev∨m.prev=lastT r.js.log∧(r.js.log.length:Int)≤m.index))
def Rs.al1 (r:Rs)(m:Ms):Rs×List Ms:=
 (if r.grants m then {r with js:=⟨m.term,m.from_,r.js.log⟩} else r,[⟨2,r.id,m.from_,r.js.term,0,0,0,r.grants m,[]⟩])
def Rs.aiz (r:Rs)(m:Ms):Rs×List Ms:=
 if r.role≠2∨m.term≠r.js.term∨m.ok=false then (r,[]) else
 if 2*aut (r.gW |||2 ^ m.from_.toNat) r.n≤r.n then ({r with gW:=r.gW |||2 ^ m.from_.toNat},[]) else
 (({r with gW:=r.gW |||2 ^ m.from_.toNat}:Rs).lead,({r with gW:=r.gW |||2 ^ m.from_.toNat}:Rs).lead.nO)
def Rs.answer (r:Rs)(dst index:Int)(ok:Bool):List Ms:=[⟨4,r.id,dst,r.js.term,index,0,0,ok,[]⟩]
def su (l:List Lg):Nat→List Lg→Nat
 |_,[]=>0
 |p,x :: es=>if dX l (p:Int)=x.term then su l (p+1) es+1 else 0
def anw (s:Js)(es:List Lg):Js:=es.foldl (fun s x=>jN s x.term x.e) s
def replaceS (s:Js)(p:Nat)(es:List Lg):Js:=anw (if p<s.log.length then ⟨s.term,s.fZ,s.log.take p⟩ else s) es
def Rs.fits (r:Rs)(m:Ms):Bool:=decide (m.index≤r.js.log.length∧(m.index=0∨dX r.js.log (m.index-1)=m.prev))
def Rs.ae3 (r:Rs)(m:Ms):Rs×List Ms:=
 if m.term<r.js.term then (r,r.answer m.from_ 0 false) else
 if r.role=3 then (r,[]) else
 if r.fits m=false then ({r with role:=1},r.answer m.from_ (min (r.js.log.length:Int) (m.index-1)) false) else
 if su r.js.log m.index.toNat m.es<m.es.length then
  if m.index.toNat+su r.js.log m.index.toNat m.es<r.commit then ({r with role:=1},[]) else
  ({r with role:=1,js:=replaceS r.js (m.index.toNat+su r.js.log m.index.toNat m.es) (m.es.drop (su r.js.log m.index.toNat m.es)),commit:=max r.commit (min m.commit.toNat (m.index.toNat+m.es.length))},r.answer m.from_ (m.index+m.es.length) true)
 else ({r with role:=1,commit:=max r.commit (min m.commit.toNat (m.index.toNat+m.es.length))},r.answer m.from_ (m.index+m.es.length) true)
def setAt (f:Nat→Nat)(i v:Nat):Nat→Nat:=fun k=>if k=i then v else f k
def Rs.ae2 (r:Rs)(m:Ms):Rs×List Ms:=
 if r.role≠3∨m.term≠r.js.term then (r,[]) else
 if m.ok=false then
  ({r with next:=setAt r.next m.from_.toNat (min (r.next m.from_.toNat-1) m.index.toNat)},[({r with next:=setAt r.next m.from_.toNat (min (r.next m.from_.toNat-1) m.index.toNat)}:Rs).app m.from_.toNat])
 else if m.index≤r.js.log.length then
  (({r with qI:=setAt r.qI m.from_.toNat (max (r.qI m.from_.toNat) m.index.toNat),next:=setAt r.next m.from_.toNat (max (r.qI m.from_.toNat) m.index.toNat)}:Rs).advance,[])
 else (r,[])
def Rs.takes (r:Rs)(m:Ms):Rs×List Ms:=
 if m.kind=1 then r.al1 m else if m.kind=2 then r.aiz m else if m.kind=3 then r.ae3 m else r.ae2 m
def Rs.handle (r:Rs)(m:Ms):Rs×List Ms:=if r.proper m=false then (r,[]) else (r.meets m.term).takes m
def Rs.crash (r:Rs):Rs:={r with role:=1,commit:=0}
structure kY (l:List Lg) (hi:Int):Prop where
 few:l.length≤4096
 each:∀x∈l,1≤x.term∧x.term≤hi∧fF x.e=true∧x.e.ok
 asc:∀(i j:Nat) (x y:Lg),i≤j→l[i]? =some x→l[j]? =some y→x.term≤y.term
structure gJ (r:Rs):Prop where
 log:kY r.js.log r.js.term
 lo:0≤r.js.term
 hi:r.js.term≤1073741824
 vlo: -1≤r.js.fZ
 vhi:r.js.fZ<5
 idn:r.id<r.n
 five:r.n≤5
 role:r.role=1∨r.role=2∨r.role=3
 com:r.commit≤r.js.log.length
 vts:r.gW<32
 nxt:r.role=3→∀i,r.next i≤r.js.log.length
 mts:r.role=3→∀i,r.qI i≤r.js.log.length
theorem kY.nil (hi:Int):kY [] hi:=⟨by simp,(fun x h=>by cases h),fun i j x y _ h=>by simp at h⟩
theorem kY.up {l:List Lg}{a b:Int}(h:kY l a)(hab:a≤b):kY l b:=⟨h.few,fun x hx=>by obtain ⟨h1,h2,h3⟩:=h.each x hx;exact ⟨h1,by omega,h3⟩,h.asc⟩
theorem zZ {l:List Lg}{k:Nat}{x:Lg}(h:l[k]? =some x):dX l (k:Int)=x.term:=by
 unfold dX;rw [if_pos oy,Int.toNat_natCast,h]
 rfl
theorem kY.snoc {l:List Lg}{a:Int}(h:kY l a){x:Lg}(h1:1≤x.term)(h2:x.term≤a)(h3:fF x.e=true)(h4:x.e.ok)(h5:lastT l≤x.term)(h6:l.length<4096):kY (l++[x]) a:=by
 have hl:∀(i:Nat) (y:Lg),l[i]? =some y→y.term≤x.term:=fun i y hy=>by
  have hi:=(List.getElem?_eq_some_iff.1 hy).1;obtain ⟨z,hz⟩:∃z,l[l.length-1]? =some z:=⟨_,List.getElem?_eq_getElem oy⟩;have:=h.asc i (l.length-1) y z oy hy hz;have h7:lastT l=z.term:=by unfold lastT;rw [show ((l.length:Int)-1)=((l.length-1:Nat):Int) from by omega,zZ hz]
  omega
 refine ⟨by simp;omega,fun y hy=> ?_,fun i j y z hij hy hz=> ?_⟩
 ·rcases List.mem_append.1 hy with hy|hy
  ·exact h.each y hy
  ·simp at hy;subst hy;exact ⟨h1,h2,h3,h4⟩
 ·rcases Nat.lt_or_ge j l.length with hj|hj
  ·rw [List.getElem?_append_left oy] at hy
   rw [List.getElem?_append_left hj] at hz;exact h.asc i j y z hij hy hz
  ·rw [List.getElem?_append_right hj] at hz
   have hj0:j-l.length=0:=by
    have:=(List.getElem?_eq_some_iff.1 hz).1
    simp at this;omega
   rw [hj0] at hz
   simp at hz
   subst hz
   rcases Nat.lt_or_ge i l.length with hi|hi
   ·rw [List.getElem?_append_left hi] at hy
    exact hl i y hy
   ·rw [List.getElem?_append_right hi] at hy
    have hi0:i-l.length=0:=by omega
    rw [hi0] at hy
    simp at hy
    subst hy;exact Int.le_refl _
theorem qZ (s:Js)(t v:Int)(h1:0≤t)(h2:t≤1073741824)(h3: -1≤v)(h4:v<5)(h5:s.term<t∨s.term=t∧(s.fZ= -1∨s.fZ=v)):bK s t v=0∧cO s t v=⟨t,v,s.log⟩:=by
 have hx:bK s t v=0:=by
  unfold bK;rw [if_neg oy,if_neg (by rcases h5 with h5|⟨h5,h6|h6⟩<;>omega)]
 exact ⟨hx,by unfold cO;rw [if_pos hx]⟩
theorem lU {s:Js}{t:Int}{e:En}(h:kX s t e=0):jN s t e=⟨s.term,s.fZ,s.log++[⟨t,e⟩]⟩:=by unfold jN;rw [if_pos h]
theorem kY.add {s:Js}(h:kY s.log s.term)(t:Int)(e:En)(he:e.ok):kY (jN s t e).log (jN s t e).term:=by
 by_cases h0:kX s t e=0
 ·rw [lU h0]
  obtain ⟨b1,b2,b3,b4,b5,b6⟩:=qD h0;exact h.snoc b1 b4 b3 he b5 b6
 ·rw [jM h0];exact h
theorem ada (s:Js)(t:Int)(e:En):(jN s t e).term=s.term∧(jN s t e).fZ=s.fZ:=by
 by_cases h0:kX s t e=0
 ·rw [lU h0];exact ⟨rfl,rfl⟩
 ·rw [jM h0];exact ⟨rfl,rfl⟩
theorem Rs.aj2 (r:Rs):∀m,r.commit≤r.pE m∧(r.pE m≤r.commit∨r.pE m≤m):=by
 intro m
 induction m with
 |zero=>exact ⟨Nat.le_refl _,.inl (Nat.le_refl _)⟩
 |succ m ih=>
  simp only [Rs.pE]
  split
  ·exact ⟨Nat.le_refl _,.inl (Nat.le_refl _)⟩
  ·split
   ·exact ⟨by omega,.inr (Nat.le_refl _)⟩
   ·omega
theorem ow {id n k:Nat}:k∈others id n↔k<n∧k≠id:=by simp [others]
theorem gJ.new {id n:Nat}(h1:id<n)(h2:n≤5):gJ (gy id n):=
 ⟨kY.nil _,by simp [gy],by simp [gy],by simp [gy],by simp [gy],h1,h2,.inl rfl,Nat.le_refl _,by simp [gy],fun h=>by simp [gy] at h,fun h=>by simp [gy] at h⟩
theorem gJ.lead {r:Rs}(h:gJ r):gJ r.lead:=
 ⟨h.log,h.lo,h.hi,h.vlo,h.vhi,h.idn,h.five,.inr (.inr rfl),h.com,h.vts,fun _ _=>Nat.le_refl _,fun _ _=>Nat.zero_le _⟩
theorem gJ.advance {r:Rs}(h:gJ r):gJ r.advance:=by
 refine ⟨h.log,h.lo,h.hi,h.vlo,h.vhi,h.idn,h.five,h.role,?_,h.vts,h.nxt,h.mts⟩;have h1:=r.aj2 r.js.log.length;have h2:=h.com
 show r.pE r.js.log.length≤r.js.log.length
 omega
theorem gJ.bB {r:Rs}(h:gJ r):gJ r.bB.1:=by
 unfold Rs.bB;have hid:=h.idn;have h5:=h.five;have hlo:=h.lo
 split
 ·exact h
 ·rename_i h0
  have hb:gJ {r with js:=⟨r.js.term+1,r.id,r.js.log⟩,role:=2,gW:=2 ^ r.id}:=
   ⟨h.log.up (by simp only;omega),by simp only;omega,by simp only;omega,by simp only;omega,by simp only;omega,h.idn,h.five,.inr (.inl rfl),h.com,by
    have:(2:Nat) ^ r.id<2 ^ 5:=Nat.pow_lt_pow_right oy oy
    simpa using this,fun hh=>by simp at hh,fun hh=>by simp at hh⟩
  split
  ·exact hb.lead
  ·exact hb
theorem gJ.proposed {r:Rs}(h:gJ r)(e:En)(he:e.ok):gJ (r.proposed e):=by
 unfold Rs.proposed
 apply gJ.advance
 have hl:=h.log.add r.js.term e he;obtain ⟨t1,t2⟩:=ada r.js r.js.term e;have hlen:r.js.log.length≤(jN r.js r.js.term e).log.length:=by
  by_cases h0:kX r.js r.js.term e=0
  ·rw [lU h0];simp
  ·rw [jM h0];exact Nat.le_refl _
 refine ⟨hl,?_,?_,?_,?_,h.idn,h.five,h.role,Nat.le_trans h.com hlen,h.vts,fun hh i=>Nat.le_trans (h.nxt hh i) hlen,fun hh i=>Nat.le_trans (h.mts hh i) hlen⟩
 ·simp only;rw [t1];exact h.lo
 ·simp only;rw [t1];exact h.hi
 ·simp only;rw [t2];exact h.vlo
 ·simp only;rw [t2];exact h.vhi
theorem gJ.propose {r:Rs}(h:gJ r)(e:En)(he:e.ok):gJ (r.propose e).1:=by
 unfold Rs.propose
 split
 ·exact h.proposed e he
 ·exact h
section
def JG (y:Bool)(w:World)(F:Nat→Prop)(j:Nat)(s:Js)(n:Nat):Prop:=
 ∃d xs k rs,JAt w F j d xs k s∧Good xs s rs∧s.log.length≤4096∧xs.length≤n∧(y=true→k=xs.length)
def nL (y:Bool)(w:World)(F:Nat→Prop)(j:Nat)(s:Js)(n:Nat)(w' :World):Prop:=
 ∃F',JG y w' F' j s n∧(∀i,F' i→F i∨w.heap.size≤i)∧Fr F w w'
section
variable {y:Bool}{w w' w1:World}{F G:Nat→Prop}{j:Nat}{s s' :Js}{n m:Nat}
theorem JG.fr (h:JG y w F j s n)(hf:Fr G w w')(hd:∀i,F i→¬G i):JG y w' F j s n:=by
 obtain ⟨d,xs,k,rs,h1,h2⟩:=h;exact ⟨d,xs,k,rs,h1.fr hf hd,h2⟩
theorem JG.au (h:JG y w F j s n)(hf:Fr No w w'):JG y w' F j s n:=h.fr hf fun _ _ hi=>hi
theorem JG.lt (h:JG y w F j s n):∀i,F i→i<w.heap.size:=by
 obtain ⟨d,xs,k,rs,h1,h2⟩:=h;exact h1.lt
theorem JG.more (h:JG y w F j s n)(hn:n≤m):JG y w F j s m:=by
 obtain ⟨d,xs,k,rs,h1,h2,h3,h4,h5⟩:=h;exact ⟨d,xs,k,rs,h1,h2,h3,Nat.le_trans h4 hn,h5⟩
theorem nL.of {d:Nat}{xs:List UInt8}{k:Nat}{rs:List (List UInt8)}(h:JTo w F j d xs k s w')(hg:Good xs s rs)(hl:s.log.length≤4096)(hn:xs.length≤n)(hy:y=true→k=xs.length):nL y w F j s n w' :=by
 obtain ⟨F',g1,g2,g3⟩:=h;exact ⟨F',⟨d,xs,k,rs,g1,hg,hl,hn,hy⟩,g2,g3⟩
theorem ru (s:Js)(t v:Int):(cO s t v).log=s.log:=by unfold cO;split<;>rfl
theorem aes {t v:Int}(h:bK s t v=0):(ag0 t v).length≤30:=by
 have hb:=aal h;have:=jc [1,t,v] (by
  intro x hx;simp only [List.mem_cons,List.not_mem_nil,or_false] at hx
  rcases hx with rfl|rfl|rfl<;>omega)
 simpa [ag0] using this
theorem aeu {t:Int}{e:En}(he:e.ok)(h:kX s t e=0):(aev t e).length≤110:=by
 have hb:=qD h;have l2:=jc [2,t] (by
  intro x hx;simp only [List.mem_cons,List.not_mem_nil,or_false] at hx
  rcases hx with rfl|rfl<;>omega)
 have l3:=aci e he;unfold aev;rw [List.length_append]
 simp at l2
 omega
end
section
variable {y:Bool}{w w' w1:World}{F G:Nat→Prop}{j:Nat}{s:Js}{n:Nat}
theorem aq5 (w:World):
  Calls Tryz.prog 177 #[] w fun e w' =>∃j F,e= .returned (.pointer (some ⟨j,0,none⟩))∧JG true w' F j abf 0∧(∀i,F i→w.heap.size≤i)∧Fr No w w' :=by
 refine (ap4 w).mono ?_;rintro e w' ⟨j,d,F,h1,h2,h3,h4⟩;exact ⟨j,F,h1,⟨d,[],0,[],h2,Good.new,by decide,Nat.le_refl _,fun _=>rfl⟩,h3,h4⟩
theorem ane (h:JG y w F j s n):Calls Tryz.prog 246 #[.pointer (some ⟨j,0,none⟩)] w fun e w' =>e= .returned (.int .i64 s.term)∧w=w' :=by
 obtain ⟨d,xs,k,rs,h1,h2⟩:=h;exact ama h1
theorem aq6 (h:JG y w F j s n):Calls Tryz.prog 278 #[.pointer (some ⟨j,0,none⟩)] w fun e w' =>e= .returned (.int .i64 (s.log.length:Int))∧w=w' :=by
 obtain ⟨d,xs,k,rs,h1,h2⟩:=h;exact ap5 h1
theorem aw4 (h:JG y w F j s n)(i:Int):Calls Tryz.prog 309 #[.pointer (some ⟨j,0,none⟩),.int .i64 i] w fun e w' =>e= .returned (.tuple #[(atJ s.log i).1.v,.bool (atJ s.log i).2])∧Fr No w w' :=by
 obtain ⟨d,xs,k,rs,h1,h2⟩:=h;exact asx h1 i
theorem qw (h:JG y w F j s n)(i:Int):Calls Tryz.prog 279 #[.pointer (some ⟨j,0,none⟩),.int .i64 i] w fun e w' =>e= .returned (.int .i64 (dX s.log i))∧Fr No w w' :=by
 obtain ⟨d,xs,k,rs,h1,h2⟩:=h;exact wY h1 i
theorem ab4 (h:JG y w F j s n)(t v:Int)(hsz:n+200≤140737488355328):
  Calls Tryz.prog 277 #[.pointer (some ⟨j,0,none⟩),.int .i64 t,.int .i64 v] w fun e w' =>e= .returned (.int .i64 (bK s t v))∧nL false w F j (cO s t v) (n+48) w' :=by
 obtain ⟨d,xs,k,rs,h1,h2,h3,h4,h5⟩:=h;refine (abj h1 t v oy).mono ?_;rintro e w' ⟨rfl,j2⟩;refine ⟨rfl,?_⟩
 by_cases h0:bK s t v=0
 ·rw [if_pos h0] at j2
  have hr:=aes h0;have hp:=mF 8 (ag0 t v) oy;exact nL.of j2 (h2.snoc (ag0 t v) oy (uj s t v h0)) (by rw [ru];exact h3) (by rw [List.length_append];omega) (fun h=>by cases h)
 ·rw [if_neg h0,mh h0] at j2
  rw [mh h0];exact nL.of j2 h2 h3 oy (fun h=>by cases h)
theorem afs (h:JG y w F j s n)(t:Int)(e:En)(he:e.ok)(hsz:n+200≤140737488355328):
  Calls Tryz.prog 255 #[.pointer (some ⟨j,0,none⟩),.int .i64 t,e.v] w fun r w' =>r= .returned (.int .i64 (kX s t e))∧nL false w F j (jN s t e) (n+128) w' :=by
 obtain ⟨d,xs,k,rs,h1,h2,h3,h4,h5⟩:=h;refine (wZ h1 h3 t e he oy).mono ?_;rintro r w' ⟨rfl,j2⟩;refine ⟨rfl,?_⟩
 by_cases h0:kX s t e=0
 ·rw [if_pos h0] at j2
  have hr:=aeu he h0;have hp:=mF 8 (aev t e) oy;have hb:=qD h0;exact nL.of j2 (h2.snoc (aev t e) oy (rG s t e he h0)) (by unfold jN;rw [if_pos h0];simp only [List.length_append,List.length_singleton];omega) (by rw [List.length_append];omega) (fun h=>by cases h)
 ·rw [if_neg h0,jM h0] at j2
  rw [jM h0];exact nL.of j2 h2 h3 oy (fun h=>by cases h)
theorem ahi (h:JG y w F j s n):
  Calls Tryz.prog 256 #[.pointer (some ⟨j,0,none⟩)] w fun e w' =>e= .returned (.tuple #[])∧nL true w F j s n w' :=by
 obtain ⟨d,xs,k,rs,h1,h2,h3,h4,h5⟩:=h;refine (amb h1).mono ?_;rintro r w' ⟨rfl,j2⟩;exact ⟨rfl,nL.of j2 h2 h3 h4 (fun _=>rfl)⟩
end
end
section
abbrev adn:TypeId:=299
abbrev TMs:TypeId:=318
abbrev fH (j:Nat)(r:Rs)(bits:Int)(nx mt:Nat→Int):Array Value:=
 #[.pointer (some ⟨j,0,none⟩),.int .i64 r.id,.int .i64 r.n,.int .i64 r.role,.int .i64 r.commit,.int .i64 bits,.int .i64 (nx 0),.int .i64 (nx 1),.int .i64 (nx 2),.int .i64 (nx 3),.int .i64 (nx 4),.int .i64 (mt 0),.int .i64 (mt 1),.int .i64 (mt 2),.int .i64 (mt 3),.int .i64 (mt 4)]
def an2 (r:Rs)(bits:Int)(nx mt:Nat→Int):Prop:=(r.role=2→bits=r.gW)∧(r.role=3→∀i,i<r.n→nx i=r.next i∧mt i=r.qI i)
def RAt (w:World)(F:Nat→Prop)(p:Nat)(r:Rs)(n:Nat):Prop:=
 ∃j Fj bits nx mt,Blk w p adn (fH j r bits nx mt)∧F p∧JG true w Fj j r.js n∧(∀i,Fj i→F i)∧¬Fj p∧(∀i,F i→i<w.heap.size)∧an2 r bits nx mt∧gJ r
def RTo (w:World)(F:Nat→Prop)(p:Nat)(r:Rs)(n:Nat)(w' :World):Prop:=
 ∃F',RAt w' F' p r n∧(∀i,F' i→F i∨w.heap.size≤i)∧Fr F w w'
section
variable {w w' w1:World}{F G:Nat→Prop}{p:Nat}{r r' :Rs}{n m:Nat}
theorem RAt.fr (h:RAt w F p r n)(hf:Fr G w w')(hd:∀i,F i→¬G i):RAt w' F p r n:=by
 obtain ⟨j,Fj,bits,nx,mt,h1,h2,h3,h4,h5,h6,h7⟩:=h;exact ⟨j,Fj,bits,nx,mt,h1.fr hf (hd p h2),h2,h3.fr hf fun i hi=>hd i (h4 i hi),h4,h5,fun i hi=>nll (h6 i hi) hf.size,h7⟩
theorem RAt.au (h:RAt w F p r n)(hf:Fr No w w'):RAt w' F p r n:=h.fr hf fun _ _ hi=>hi
theorem RAt.lt (h:RAt w F p r n):∀i,F i→i<w.heap.size:=by
 obtain ⟨j,Fj,bits,nx,mt,h1,h2,h3,h4,h5,h6,h7⟩:=h;exact h6
theorem RAt.ok (h:RAt w F p r n):gJ r:=by
 obtain ⟨j,Fj,bits,nx,mt,h1,h2,h3,h4,h5,h6,h7,h8⟩:=h;exact h8
theorem RAt.more (h:RAt w F p r n)(hn:n≤m):RAt w F p r m:=by
 obtain ⟨j,Fj,bits,nx,mt,h1,h2,h3,h4⟩:=h;exact ⟨j,Fj,bits,nx,mt,h1,h2,h3.more hn,h4⟩
theorem RAt.still (h:RAt w F p r n)(hf:Fr No w w'):RTo w F p r n w' :=⟨F,h.au hf,fun _ hi=> .inl hi,hf.mono fun _ hi=>hi.elim⟩
theorem RTo.after (hf:Fr No w w1)(h:RTo w1 F p r n w'):RTo w F p r n w' :=by
 obtain ⟨F',h1,h2,h3⟩:=h;exact ⟨F',h1,fun i hi=>(h2 i hi).imp id (Nat.le_trans hf.size),(hf.mono (G:=F) fun _ hi=>hi.elim).trans h3 fun i hi=> .inl hi⟩
theorem RTo.more (h:RTo w F p r n w')(hn:n≤m):RTo w F p r m w' :=by
 obtain ⟨F',h1,h2⟩:=h;exact ⟨F',h1.more hn,h2⟩
theorem RAt.jrn {j:Nat}{Fj:Nat→Prop}{bits:Int}{nx mt:Nat→Int}{s' :Js}(h1:Blk w p adn (fH j r bits nx mt))(h2:F p)(h4:∀i,Fj i→F i)(h5:¬Fj p)(h6:∀i,F i→i<w.heap.size)(h7:an2 r bits nx mt)
  (hj:nL true w Fj j s' m w') (hr:gJ {r with js:=s'}):RTo w F p {r with js:=s'} m w' :=by
 obtain ⟨Fj',g1,g2,g3⟩:=hj;have hpl:=h6 p h2;refine ⟨fun i=>F i∨(w.heap.size≤i∧i<w'.heap.size),⟨j,Fj',bits,nx,mt,h1.fr g3 h5,.inl h2,g1,fun i hi=> ?_,fun hi=> ?_,fun i hi=> ?_,h7,hr⟩,fun i hi=> ?_,g3.mono h4⟩
 ·rcases g2 i hi with h|h
  ·exact .inl (h4 i h)
  ·exact .inr ⟨h,g1.lt i hi⟩
 ·rcases g2 p hi with h|h
  ·exact h5 h
  ·omega
 ·rcases hi with h|h
  ·exact nll (h6 i h) g3.size
  ·exact h.2
 ·rcases hi with h|h
  ·exact .inl h
  ·exact .inr h.1
theorem RAt.cells {j:Nat}{Fj:Nat→Prop}{bits' :Int}{nx' mt' :Nat→Int}(h2:F p)(h3:JG true w Fj j r.js n)(h4:∀i,Fj i→F i)(h5:¬Fj p)(h6:∀i,F i→i<w.heap.size)
  (hf:Fr (fun i=>i=p) w w') (hb:Blk w' p adn (fH j r' bits' nx' mt')) (hjs:r'.js=r.js) (h7:an2 r' bits' nx' mt') (hr:gJ r'):RTo w F p r' n w' :=by
 refine ⟨F,⟨j,Fj,bits',nx',mt',hb,h2,?_,h4,h5,fun i hi=>nll (h6 i hi) hf.size,h7,hr⟩,fun i hi=> .inl hi,hf.mono fun i hi=>hi▸h2⟩;rw [hjs];exact h3.fr hf fun i hi he=>h5 (he▸hi)
end
abbrev Ms.v (m:Ms)(v:Value):Value:= .agg #[.int .i64 m.kind,.int .i64 m.from_,.int .i64 m.to_,.int .i64 m.term,.int .i64 m.index,.int .i64 m.prev,.int .i64 m.commit,.bool m.ok,v]
def Ms.cells (m:Ms)(v:Value):List Value:=[.int .i64 m.kind,.int .i64 m.from_,.int .i64 m.to_,.int .i64 m.term,.int .i64 m.index,.int .i64 m.prev,.int .i64 m.commit,.bool m.ok,v]
def Ent (w:World)(G:Nat→Prop)(v:Value)(es:List Lg):Prop:=
 ∃A c,v= .slice A es.length c∧(A=none→es.length=0)∧es.length≤c∧c≤maxLen∧(es=[]∨∃b off,A=some ⟨b,off,none⟩∧G b∧b<w.heap.size∧∀k,(h:k<(lu es).length)→w.cell? ⟨b,off+k,none⟩=some (lu es)[k])
theorem Ent.fr {w w' :World}{F G:Nat→Prop}{v:Value}{es:List Lg}(h:Ent w G v es)(hf:Fr F w w')(hd:∀i,G i→¬F i):Ent w' G v es:=by
 obtain ⟨A,c,h1,h2,h3,h4,h5⟩:=h;refine ⟨A,c,h1,h2,h3,h4,h5.imp id ?_⟩;rintro ⟨b,off,e1,e2,e3,e4⟩;exact ⟨b,off,e1,e2,nll e3 hf.size,fun k hk=>(hf.cell (p:=⟨b,off+k,none⟩) e3 (hd b e2)).trans (e4 k hk)⟩
theorem Ent.au {w w' :World}{G:Nat→Prop}{v:Value}{es:List Lg}(h:Ent w G v es)(hf:Fr No w w'):Ent w' G v es:=h.fr hf fun _ _ hi=>hi
theorem Ent.mono {w:World}{G H:Nat→Prop}{v:Value}{es:List Lg}(h:Ent w G v es)(hGH:∀i,G i→H i):Ent w H v es:=by
 obtain ⟨A,c,h1,h2,h3,h4,h5⟩:=h;exact ⟨A,c,h1,h2,h3,h4,h5.imp id fun ⟨b,off,e1,e2,e3⟩=>⟨b,off,e1,hGH b e2,e3⟩⟩
theorem Ent.wL {w:World}{G:Nat→Prop}{v:Value}{es:List Lg}(h:aA w G TLg 10 v es.length (lu es)):Ent w G v es:=by
 obtain ⟨A,c,rfl,hn⟩:=h.form;obtain ⟨h1,h2⟩:=h.cap;refine ⟨A,c,rfl,hn,h1,h2,?_⟩
 rcases Nat.eq_zero_or_pos es.length with h0|h0
 ·exact .inl (List.eq_nil_of_length_eq_zero h0)
 ·obtain ⟨b,rfl,h3,h4,h5⟩:=h.head h0
  exact .inr ⟨b,0,rfl,h4,h3,fun k hk=>by rw [Nat.zero_add,h5 k hk,List.getElem?_eq_getElem hk]⟩
theorem Ent.nil (w:World)(G:Nat→Prop):Ent w G (.slice none 0 0) []:=⟨none,0,rfl,fun _=>rfl,Nat.le_refl _,by unfold maxLen;omega,.inl rfl⟩
def msV:List Ms→List Value→List Value
 |m :: ms,v :: vs=>m.cells v++msV ms vs
 |_,_=>[]
theorem ai6:∀(ms:List Ms) (vs:List Value),vs.length=ms.length→(msV ms vs).length=ms.length*9:=by
 intro ms
 induction ms with
 |nil=>intro vs _;cases vs<;>rfl
 |cons m ms ih=>
  intro vs h
  rcases vs with _|⟨v,vs⟩
  ·simp at h
  ·simp only [msV,List.length_append,List.length_cons]
   rw [ih vs (by simpa using h),Nat.succ_mul]
   simp [Ms.cells]
   omega
theorem wO:∀(ms:List Ms) (vs:List Value) (m:Ms) (v:Value),vs.length=ms.length→msV (ms++[m]) (vs++[v])=msV ms vs++m.cells v:=by
 intro ms
 induction ms with
 |nil=>
  intro vs m v h;obtain rfl:vs=[]:=List.eq_nil_of_length_eq_zero (by simpa using h)
  simp [msV]
 |cons x ms ih=>
  intro vs m v h
  rcases vs with _|⟨y,vs⟩
  ·simp at h
  ·simp only [List.cons_append,msV,List.append_assoc]
   rw [ih vs m v (by simpa using h)]
structure iU (w:World) (Gs Ge:Nat→Prop) (v:Value) (ms:List Ms) (vs:List Value):Prop where
 own:aA w Gs TMs 9 v ms.length (msV ms vs)
 len:vs.length=ms.length
 each:∀(i:Nat) (m:Ms) (x:Value),ms[i]? =some m→vs[i]? =some x→Ent w Ge x m.es
 apart:∀i,Gs i→¬Ge i
 ltS:∀i,Gs i→i<w.heap.size
 ltE:∀i,Ge i→i<w.heap.size
def kC (w:World)(G:Nat→Prop)(v:Value)(ms:List Ms):Prop:=∃Gs Ge vs,iU w Gs Ge v ms vs∧(∀i,Gs i→G i)∧∀i,Ge i→G i
theorem iU.fr {w w' :World}{F Gs Ge:Nat→Prop}{v:Value}{ms:List Ms}{vs:List Value}(h:iU w Gs Ge v ms vs)(hf:Fr F w w')(hs:∀i,Gs i→¬F i)(he:∀i,Ge i→¬F i):iU w' Gs Ge v ms vs:=
 ⟨h.own.fr' hf fun g hg=>hs g (h.own.2 g hg),h.len,fun i m x hm hx=>(h.each i m x hm hx).fr hf he,h.apart,fun i hi=>nll (h.ltS i hi) hf.size,fun i hi=>nll (h.ltE i hi) hf.size⟩
theorem iU.au {w w' :World}{Gs Ge:Nat→Prop}{v:Value}{ms:List Ms}{vs:List Value}(h:iU w Gs Ge v ms vs)(hf:Fr No w w'):iU w' Gs Ge v ms vs:=h.fr hf (fun _ _ hi=>hi) (fun _ _ hi=>hi)
theorem kC.nil (w:World)(G:Nat→Prop):kC w G (.slice none 0 0) []:=
 ⟨No,No,[],⟨aA.nil _ _ _ _,rfl,fun i m x hm=>by simp at hm,fun _ h=>h.elim,fun _ h=>h.elim,fun _ h=>h.elim⟩,fun _ h=>h.elim,fun _ h=>h.elim⟩
theorem Ent.lt {w:World}{G:Nat→Prop}{v:Value}{es:List Lg}(h:Ent w G v es):Ent w (fun i=>G i∧i<w.heap.size) v es:=by
 obtain ⟨A,c,h1,h2,h3,h4,h5⟩:=h;exact ⟨A,c,h1,h2,h3,h4,h5.imp id fun ⟨b,off,e1,e2,e3,e4⟩=>⟨b,off,e1,⟨e2,e3⟩,e3,e4⟩⟩
theorem aa4 (m:Ms){w:World}{G:Nat→Prop}{x:Value}(hx:Ent w G x m.es):∀u∈m.cells x,u.oneCell' =true:=by
 obtain ⟨A,c,rfl,-⟩:=hx;intro u hu;simp only [Ms.cells,List.mem_cons,List.not_mem_nil,or_false] at hu
 rcases hu with rfl|rfl|rfl|rfl|rfl|rfl|rfl|rfl|rfl<;>rfl
theorem iU.snoc {W W2 W3:World}{G Gs Ge:Nat→Prop}{v v' x:Value}{ms:List Ms}{vs:List Value}{m:Ms}(h:iU W Gs Ge v ms vs)(hG:∀i,W.heap.size≤i→G i)(hs:∀i,Gs i→G i)(he:∀i,Ge i→G i)(hf:Fr No W W2)(hx:Ent W2 (fun b=>W.heap.size≤b) x m.es)
  (ha:aJ W2 0 TMs 9 v ms.length (msV ms vs) (m.cells x) 1 v' W3):kC W3 G v' (ms++[m])∧Fr (fun i=>Gs i) W2 W3:=by
 obtain ⟨o1,f1⟩:=(h.own.au hf).appended ha;have hsz:=hf.size;have hsz2:=f1.size;refine ⟨⟨fun i=>Gs i∨(i=W2.heap.size∧i<W3.heap.size),fun i=>Ge i∨(W.heap.size≤i∧i<W2.heap.size),vs++[x],⟨?_,by simp [h.len],fun i m' x' hm hx' => ?_,fun i hi hh=> ?_,fun i hi=> ?_,fun i hi=> ?_⟩,fun i hi=> ?_,fun i hi=> ?_⟩,f1⟩
 ·rw [wO _ _ _ _ h.len,List.length_append,List.length_singleton]
  exact o1
 ·rcases Nat.lt_or_ge i ms.length with hi|hi
  ·rw [List.getElem?_append_left hi] at hm
   rw [List.getElem?_append_left (by rw [h.len];exact hi)] at hx';exact (((h.each i m' x' hm hx').au hf).fr f1 fun k hk hh=>h.apart k hh hk).mono fun k hk=> .inl hk
  ·rw [List.getElem?_append_right hi] at hm
   rw [List.getElem?_append_right (by rw [h.len];exact hi)] at hx';have hi0:i-ms.length=0:=by
    have:=(List.getElem?_eq_some_iff.1 hm).1
    simp at this;omega
   rw [hi0] at hm;rw [h.len,hi0] at hx'
   simp at hm hx'
   subst hm hx';exact (hx.lt.fr f1 fun k hk hh=>by have:=h.ltS k hh;have:=hk.1;omega).mono fun k hk=> .inr hk
 ·rcases hi with hi|hi
  ·rcases hh with hh|hh
   ·exact h.apart i hi hh
   ·have:=h.ltS i hi;omega
  ·rcases hh with hh|hh
   ·have:=h.ltE i hh;omega
   ·omega
 ·rcases hi with hi|hi
  ·have:=h.ltS i hi;omega
  ·exact hi.2
 ·rcases hi with hi|hi
  ·have:=h.ltE i hi;omega
  ·omega
 ·rcases hi with hi|hi
  ·exact hs i hi
  ·exact hG i oy
 ·rcases hi with hi|hi
  ·exact he i hi
  ·exact hG i hi.1
end
section
theorem qA {w:World}{b o:Nat}{v:Value}(h:w.cell? ⟨b,o,none⟩=some v):b<w.heap.size:=by
 unfold World.cell? at h
 rcases Nat.lt_or_ge b w.heap.size with hlt|hge
 ·exact hlt
 ·simp [Array.getElem?_eq_none hge] at h
def RJ (w:World)(p:Nat)(s:Js)(n:Nat):Prop:=∃j Fj,w.cell? ⟨p,0,none⟩=some (.pointer (some ⟨j,0,none⟩))∧JG true w Fj j s n∧¬Fj p
section
variable {w w' :World}{F:Nat→Prop}{p:Nat}{r:Rs}{s:Js}{n:Nat}
theorem RAt.rj (h:RAt w F p r n):RJ w p r.js n:=by
 obtain ⟨j,Fj,bits,nx,mt,h1,h2,h3,h4,h5,h6,h7⟩:=h;exact ⟨j,Fj,h1.cell 0,h3,h5⟩
theorem RJ.au (h:RJ w p s n)(hf:Fr No w w'):RJ w' p s n:=by
 obtain ⟨j,Fj,h1,h2,h3⟩:=h;exact ⟨j,Fj,(hf.cell (p:=⟨p,0,none⟩) (qA h1) id).trans h1,h2.au hf,h3⟩
theorem alu (h:RAt w F p r n):Calls Tryz.prog 199 #[.pointer (some ⟨p,0,none⟩)] w fun e w' =>e= .returned (.int .i64 r.role)∧w=w' :=by
 obtain ⟨j,Fj,bits,nx,mt,h1,-⟩:=h;have c3:w.cell? ⟨p,3,none⟩=some (.int .i64 r.role):=h1.cell 3;clear h1
 go_in
 go_wp2_with fail
 go_ret
 exact ⟨rfl,rfl⟩
theorem wK (h:RAt w F p r n):Calls Tryz.prog 211 #[.pointer (some ⟨p,0,none⟩)] w fun e w' =>e= .returned (.int .i64 (r.commit:Int))∧w=w' :=by
 obtain ⟨j,Fj,bits,nx,mt,h1,-⟩:=h;have c3:w.cell? ⟨p,4,none⟩=some (.int .i64 (r.commit:Int)):=h1.cell 4;clear h1
 go_in
 go_wp2_with fail
 go_ret
 exact ⟨rfl,rfl⟩
theorem rW (h:RJ w p s n):Calls Tryz.prog 200 #[.pointer (some ⟨p,0,none⟩)] w fun e w' =>e= .returned (.int .i64 s.term)∧w=w' :=by
 obtain ⟨j,Fj,c0,h3,-⟩:=h;have hg:=ane h3;clear h3;have HG:=O hg;clear hg
 go_in
 go_wp2_with fail
 refine HG.out.mono ?_;rintro e w' ⟨rfl,rfl⟩
 go_wp2_with fail
 go_ret
 exact ⟨rfl,rfl⟩
theorem aay (h:RJ w p s n):Calls Tryz.prog 253 #[.pointer (some ⟨p,0,none⟩)] w fun e w' =>e= .returned (.int .i64 (s.log.length:Int))∧w=w' :=by
 obtain ⟨j,Fj,c0,h3,-⟩:=h;have hg:=aq6 h3;clear h3;have HG:=O hg;clear hg
 go_in
 go_wp2_with fail
 refine HG.out.mono ?_;rintro e w' ⟨rfl,rfl⟩
 go_wp2_with fail
 go_ret
 exact ⟨rfl,rfl⟩
theorem wU {w:World}{g:Nat}{x:Lg}(hb:Blk w g TLg x.cells.toArray):w.cell? ⟨g,0,none⟩=some (.int .i64 x.term)∧w.cell? ⟨g,1,none⟩=some (.int .i64 x.e.kind)∧w.cell? ⟨g,2,none⟩=some (.int .i64 x.e.tick)∧w.cell? ⟨g,3,none⟩=some (.int .i64 x.e.bF)∧w.cell? ⟨g,4,none⟩=some (.int .i64 x.e.cell)∧w.cell? ⟨g,5,none⟩=some (.int .i64 x.e.other)∧w.cell? ⟨g,6,none⟩=some (.int .i64 x.e.epoch)∧w.cell? ⟨g,7,none⟩=some (.int .i64 x.e.from_)∧w.cell? ⟨g,8,none⟩=some (.int .i64 x.e.fE)∧w.cell? ⟨g,9,none⟩=some (.int .i64 x.e.n):=
 ⟨hb.cell 0,hb.cell 1,hb.cell 2,hb.cell 3,hb.cell 4,hb.cell 5,hb.cell 6,hb.cell 7,hb.cell 8,hb.cell 9⟩
theorem zu (x:Lg)(g:Nat)(y:Value)(ts:Array Value)(W:World)(hb:Blk W g TLg x.cells.toArray)(h2:ts[4]?.getD undef= .pointer (some ⟨g,0,none⟩))(h3:ts[5]?.getD undef=y):
  (results Tryz.f312 ts).run Tryz.prog W= .ok (.tuple #[x.v,y]) W:=by
 obtain ⟨c0,c1,c2,c3,c4,c5,c6,c7,c8,c9⟩:=wU hb;clear hb
 simp [results,Tryz.results312,go_sem,h2,h3,Lg.v,c0,c1,c2,c3,c4,c5,c6,c7,c8,c9]
theorem ajb {Z:World}{q:Nat}(x:Lg)(h:Blk Z q TLg #[.int .i64 0,.int .i64 0,.int .i64 0,.int .i64 0,.int .i64 0,.int .i64 0,.int .i64 0,.int .i64 0,.int .i64 0,.int .i64 0]):Blk (World.setCell (World.setCell (World.setCell (World.setCell (World.setCell (World.setCell (World.setCell (World.setCell (World.setCell (World.setCell Z ⟨q,0,none⟩ (.int .i64 x.term)) ⟨q,1,none⟩ (.int .i64 x.e.kind)) ⟨q,2,none⟩ (.int .i64 x.e.tick)) ⟨q,3,none⟩ (.int .i64 x.e.bF)) ⟨q,4,none⟩ (.int .i64 x.e.cell)) ⟨q,5,none⟩ (.int .i64 x.e.other)) ⟨q,6,none⟩ (.int .i64 x.e.epoch)) ⟨q,7,none⟩ (.int .i64 x.e.from_)) ⟨q,8,none⟩ (.int .i64 x.e.fE)) ⟨q,9,none⟩ (.int .i64 x.e.n)) q TLg #[.int .i64 x.term,.int .i64 x.e.kind,.int .i64 x.e.tick,.int .i64 x.e.bF,.int .i64 x.e.cell,.int .i64 x.e.other,.int .i64 x.e.epoch,.int .i64 x.e.from_,.int .i64 x.e.fE,.int .i64 x.e.n]:=by
 refine Blk.conv (Blk.aC (Blk.aC (Blk.aC (Blk.aC (Blk.aC (Blk.aC (Blk.aC (Blk.aC (Blk.aC (Blk.aC h 0 (.int .i64 x.term)) 1 (.int .i64 x.e.kind)) 2 (.int .i64 x.e.tick)) 3 (.int .i64 x.e.bF)) 4 (.int .i64 x.e.cell)) 5 (.int .i64 x.e.other)) 6 (.int .i64 x.e.epoch)) 7 (.int .i64 x.e.from_)) 8 (.int .i64 x.e.fE)) 9 (.int .i64 x.e.n)) ?_;simp only [List.setIfInBounds_toArray,List.set_cons_zero,List.set_cons_succ]
theorem yN {w Z:World}{q:Nat}(x:Lg)(h:Fr No w Z)(hq:w.heap.size≤q):Fr No w (World.setCell (World.setCell (World.setCell (World.setCell (World.setCell (World.setCell (World.setCell (World.setCell (World.setCell (World.setCell Z ⟨q,0,none⟩ (.int .i64 x.term)) ⟨q,1,none⟩ (.int .i64 x.e.kind)) ⟨q,2,none⟩ (.int .i64 x.e.tick)) ⟨q,3,none⟩ (.int .i64 x.e.bF)) ⟨q,4,none⟩ (.int .i64 x.e.cell)) ⟨q,5,none⟩ (.int .i64 x.e.other)) ⟨q,6,none⟩ (.int .i64 x.e.epoch)) ⟨q,7,none⟩ (.int .i64 x.e.from_)) ⟨q,8,none⟩ (.int .i64 x.e.fE)) ⟨q,9,none⟩ (.int .i64 x.e.n)):=Fr.setCell (Fr.setCell (Fr.setCell (Fr.setCell (Fr.setCell (Fr.setCell (Fr.setCell (Fr.setCell (Fr.setCell (Fr.setCell h (p:=⟨q,0,none⟩) (.inr hq) (.int .i64 x.term)) (p:=⟨q,1,none⟩) (.inr hq) (.int .i64 x.e.kind)) (p:=⟨q,2,none⟩) (.inr hq) (.int .i64 x.e.tick)) (p:=⟨q,3,none⟩) (.inr hq) (.int .i64 x.e.bF)) (p:=⟨q,4,none⟩) (.inr hq) (.int .i64 x.e.cell)) (p:=⟨q,5,none⟩) (.inr hq) (.int .i64 x.e.other)) (p:=⟨q,6,none⟩) (.inr hq) (.int .i64 x.e.epoch)) (p:=⟨q,7,none⟩) (.inr hq) (.int .i64 x.e.from_)) (p:=⟨q,8,none⟩) (.inr hq) (.int .i64 x.e.fE)) (p:=⟨q,9,none⟩) (.inr hq) (.int .i64 x.e.n)
set_option maxHeartbeats 1000000 in
theorem avz (h:RJ w p s n)(i:Int):Calls Tryz.prog 312 #[.pointer (some ⟨p,0,none⟩),.int .i64 i] w fun e w' =>e= .returned (.tuple #[(atJ s.log i).1.v,.bool (atJ s.log i).2])∧Fr No w w' :=by
 have c0:=fun W (hW:Fr No w W)=>h.au hW;obtain ⟨j,Fj,c00,h3,-⟩:=c0 _ (aj w (.cells #[.int .i64 0,.int .i64 0,.int .i64 0,.int .i64 0,.int .i64 0,.int .i64 0,.int .i64 0,.int .i64 0,.int .i64 0,.int .i64 0] TLg));have hg:=aw4 h3 i;clear h3 c0 h;generalize (atJ s.log i).1=x at*;generalize (atJ s.log i).2=b at*;obtain ⟨t,⟨kd,tick,te,ce,ot,ep,fr,un,nn⟩⟩:=x;unfold Lg.v at hg ⊢;simp only at hg ⊢;have HG:=O hg;clear hg
 go_in
 go_wp2_with fail
 refine HG.out.mono ?_;rintro e w1 ⟨rfl,f1⟩;have hb:=(Blk.new w TLg #[.int .i64 0,.int .i64 0,.int .i64 0,.int .i64 0,.int .i64 0,.int .i64 0,.int .i64 0,.int .i64 0,.int .i64 0,.int .i64 0]).fr f1 id;have F1:=O ((aj w (.cells #[.int .i64 0,.int .i64 0,.int .i64 0,.int .i64 0,.int .i64 0,.int .i64 0,.int .i64 0,.int .i64 0,.int .i64 0,.int .i64 0] TLg)).ah f1);have q0:w1.cell? ⟨w.heap.size,0,none⟩=some (.int .i64 0):=hb.cell 0;have q1:w1.cell? ⟨w.heap.size,1,none⟩=some (.int .i64 0):=hb.cell 1;have q2:w1.cell? ⟨w.heap.size,2,none⟩=some (.int .i64 0):=hb.cell 2;have q3:w1.cell? ⟨w.heap.size,3,none⟩=some (.int .i64 0):=hb.cell 3;have q4:w1.cell? ⟨w.heap.size,4,none⟩=some (.int .i64 0):=hb.cell 4;have q5:w1.cell? ⟨w.heap.size,5,none⟩=some (.int .i64 0):=hb.cell 5;have q6:w1.cell? ⟨w.heap.size,6,none⟩=some (.int .i64 0):=hb.cell 6;have q7:w1.cell? ⟨w.heap.size,7,none⟩=some (.int .i64 0):=hb.cell 7;have q8:w1.cell? ⟨w.heap.size,8,none⟩=some (.int .i64 0):=hb.cell 8;have q9:w1.cell? ⟨w.heap.size,9,none⟩=some (.int .i64 0):=hb.cell 9;have y0:=hb.frozen 0;have y1:=hb.frozen 1;have y2:=hb.frozen 2;have y3:=hb.frozen 3;have y4:=hb.frozen 4;have y5:=hb.frozen 5;have y6:=hb.frozen 6;have y7:=hb.frozen 7;have y8:=hb.frozen 8;have y9:=hb.frozen 9;have HB:=O hb;clear hb;clear f1
 go_wp2_with fail
 exact bodyPost_ret (v:= .tuple #[Lg.v ⟨t,⟨kd,tick,te,ce,ot,ep,fr,un,nn⟩⟩,.bool b]) (zu ⟨t,⟨kd,tick,te,ce,ot,ep,fr,un,nn⟩⟩ w.heap.size _ _ _ (ajb ⟨t,⟨kd,tick,te,ce,ot,ep,fr,un,nn⟩⟩ HB.out) rfl rfl) rfl ⟨rfl,yN ⟨t,⟨kd,tick,te,ce,ot,ep,fr,un,nn⟩⟩ F1.out (Nat.le_refl _)⟩
end
end
end Go.Proofs.YtodkhcbjpodgeaaGreat
