/-
  The program's journal in memory; the contracts of its readers. The contracts of At, TermAt, setTerm, cut. The contract of add: an entry is appended to the log, without the disk. The contracts of ints, write, SetTerm, Append, Cut, Sync and Bytes of the journal. The contract of Append of the journal. The contracts of take and replay of the journal. The plain law of replicas: what each call makes of a replica, and what it answers. The plain law of replicas: what there are stays what there are. The contract of Crash of the journal. The contracts of note and awake of the journal's statements. Journals whose bytes are the records of what they remember: the calls, without the bytes. The program's replica and its messages in memory. The program's replica: readers, its journal's turns, messages. The program's replica: messages, parts of the log, the journal's turns. The program's replica: parts of the log, the journal's turns, a new one.
-/
import Derived.Test.YtjnfmfmglehmbaaY14
import Derived.Test.YtjnfmfmglehmbaaY05
import Derived.Test.YtjnfmfmglehmbaaY08
import Derived.Deep.RegionLaw
import Derived.IntWalk
import Derived.Test.YtjnfmfmglehmbaaY10
import Derived.Deep.RegionHeld3
import Derived.Test.YtjnfmfmglehmbaaY02
namespace Go.Proofs.Ytjnfmfmglehmbaa
open Go.ChangeShapes Go.WideShapes Go.ChangeAt Go.RowKit
set_option linter.unusedVariables false
set_option maxRecDepth 100000
set_option maxHeartbeats 16000000
section
abbrev TJ:TypeId:=68
abbrev TLg:TypeId:=47
abbrev lgZero:Lg:=⟨0,enZero⟩
def Lg.cells (x:Lg):List Value:=[.int .i64 x.term,.int .i64 x.e.kind,.int .i64 x.e.tick,.int .i64 x.e.tenant,.int .i64 x.e.cell,.int .i64 x.e.other,.int .i64 x.e.epoch,.int .i64 x.e.from_,.int .i64 x.e.until_,.int .i64 x.e.n]
def Lg.v (x:Lg):Value:= .agg #[.int .i64 x.term,.int .i64 x.e.kind,.int .i64 x.e.tick,.int .i64 x.e.tenant,.int .i64 x.e.cell,.int .i64 x.e.other,.int .i64 x.e.epoch,.int .i64 x.e.from_,.int .i64 x.e.until_,.int .i64 x.e.n]
def logV (l:List Lg):List Value:=l.flatMap Lg.cells
theorem logV_len (l:List Lg):(logV l).length=l.length*10:=by
 induction l with
 |nil=>rfl
 |cons x l ih=>simp only [logV,List.flatMap_cons,List.length_append,List.length_cons] at*;rw [ih,Nat.succ_mul];simp [Lg.cells];omega
theorem logV_snoc (l:List Lg) (x:Lg):logV (l++[x])=logV l++x.cells:=by simp [logV]
theorem logV_get (l:List Lg) (i j:Nat) (x:Lg) (hx:l[i]? =some x) (hj:j<10):(logV l)[i*10+j]? =x.cells[j]? :=by
 induction l generalizing i with
 |nil=>simp at hx
 |cons y l ih=>
  have hl:y.cells.length=10:=rfl
  have e1:logV (y :: l)=y.cells++logV l:=by simp [logV]
  rw [e1]
  rcases i with _|i
  ·simp only [List.getElem?_cons_zero,Option.some.injEq] at hx
   subst hx
   rw [Nat.zero_mul,Nat.zero_add,List.getElem?_append_left (by omega)]
  ·rw [List.getElem?_append_right (by omega),hl,show (i+1)*10+j-10=i*10+j from by omega]
   exact ih i (by simpa using hx)
def JAt (w:World) (F:Nat→Prop) (j d:Nat) (xs:List UInt8) (k:Nat) (s:Js):Prop:=
 ∃v Fd,Blk w j TJ #[.pointer (some ⟨d,0,none⟩),.int .i64 s.term,.int .i64 s.vote,v]∧F j∧OwnN w F TLg 10 v s.log.length (logV s.log)∧DiskAt w Fd d xs k∧(∀i,Fd i→F i)∧¬Fd j∧(∀g,v.ownBlock=some g→¬Fd g)∧∀i,F i→i<w.heap.size
def JTo (w:World) (F:Nat→Prop) (j d:Nat) (xs:List UInt8) (k:Nat) (s:Js) (w' :World):Prop:=
 ∃F',JAt w' F' j d xs k s∧(∀i,F' i→F i∨w.heap.size≤i)∧Fr F w w'
section
variable {w w' w1:World} {F G:Nat→Prop} {j d:Nat} {xs:List UInt8} {k:Nat} {s:Js}
theorem JAt.fr (h:JAt w F j d xs k s) (hf:Fr G w w') (hd:∀i,F i→¬G i):JAt w' F j d xs k s:=by
 obtain ⟨v,Fd,h1,h2,h3,h4,h5,h6,h7,h8⟩:=h
 exact ⟨v,Fd,h1.fr hf (hd j h2),h2,h3.fr' hf fun g hg=>hd g (h3.2 g hg),h4.fr hf fun i hi=>hd i (h5 i hi),h5,h6,h7,fun i hi=>Nat.lt_of_lt_of_le (h8 i hi) hf.size⟩
theorem JAt.frNo (h:JAt w F j d xs k s) (hf:Fr No w w'):JAt w' F j d xs k s:=h.fr hf fun _ _ hi=>hi
theorem JAt.lt (h:JAt w F j d xs k s):∀i,F i→i<w.heap.size:=by
 obtain ⟨v,Fd,h1,h2,h3,h4,h5,h6,h7,h8⟩:=h
 exact h8
theorem JAt.self (h:JAt w F j d xs k s):JTo w F j d xs k s w:=⟨F,h,fun _ hi=> .inl hi,Fr.refl _ _⟩
theorem JAt.open_ (h:JAt w F j d xs k s):∃A c Fd,Blk w j TJ #[.pointer (some ⟨d,0,none⟩),.int .i64 s.term,.int .i64 s.vote,.slice A s.log.length c]∧F j∧OwnN w F TLg 10 (.slice A s.log.length c) s.log.length (logV s.log)∧DiskAt w Fd d xs k∧(∀i,Fd i→F i)∧¬Fd j∧(∀g,Value.ownBlock (.slice A s.log.length c)=some g→¬Fd g)∧(∀i,F i→i<w.heap.size)∧
   w.cell? ⟨j,0,none⟩=some (.pointer (some ⟨d,0,none⟩))∧w.cell? ⟨j,1,none⟩=some (.int .i64 s.term)∧w.cell? ⟨j,2,none⟩=some (.int .i64 s.vote)∧w.cell? ⟨j,3,none⟩=some (.slice A s.log.length c)∧(A=none→s.log.length=0):=by
 obtain ⟨v,Fd,h1,h2,h3,h4,h5,h6,h7,h8⟩:=h
 obtain ⟨A,c,rfl,hn⟩:=h3.form
 exact ⟨A,c,Fd,h1,h2,h3,h4,h5,h6,h7,h8,h1.cell 0,h1.cell 1,h1.cell 2,h1.cell 3,hn⟩
theorem JAt.disk {v:Value} {Fd:Nat→Prop} {ys:List UInt8} {m:Nat} (h1:Blk w j TJ #[.pointer (some ⟨d,0,none⟩),.int .i64 s.term,.int .i64 s.vote,v]) (h2:F j) (h3:OwnN w F TLg 10 v s.log.length (logV s.log)) (h5:∀i,Fd i→F i) (h6:¬Fd j) (h7:∀g,v.ownBlock=some g→¬Fd g) (h8:∀i,F i→i<w.heap.size)
  (hd:DiskTo w Fd d ys m w'):JTo w F j d ys m s w' :=by
 obtain ⟨Fd',g1,g2,g3⟩:=hd
 have hjl:=h8 j h2
 refine ⟨fun i=>F i∨(w.heap.size≤i∧i<w'.heap.size),⟨v,Fd',h1.fr g3 h6,.inl h2,(h3.fr' g3 h7).mono fun i hi=> .inl hi,g1,?_,?_,?_,?_⟩,?_,g3.mono h5⟩
 ·intro i hi
  have:=g1.lt i hi
  rcases g2 i hi with h|h
  ·exact .inl (h5 i h)
  ·exact .inr ⟨h,this⟩
 ·intro h
  rcases g2 j h with h|h
  ·exact h6 h
  ·omega
 ·intro g hg h
  have hl:=h3.lt g hg
  rcases g2 g h with h|h
  ·exact h7 g hg h
  ·omega
 ·intro i hi
  rcases hi with h|h
  ·exact Nat.lt_of_lt_of_le (h8 i h) g3.size
  ·exact h.2
 ·intro i hi
  rcases hi with h|h
  ·exact .inl h
  ·exact .inr h.1
theorem JTo.trans {ys:List UInt8} {m:Nat} {s' :Js} (h:JTo w F j d xs k s w1) (h2:∀F',JAt w1 F' j d xs k s→JTo w1 F' j d ys m s' w'):JTo w F j d ys m s' w' :=by
 obtain ⟨F1,h3,h4,h5⟩:=h
 obtain ⟨F2,g3,g4,g5⟩:=h2 F1 h3
 refine ⟨F2,g3,fun i hi=> ?_,h5.trans g5 h4⟩
 rcases g4 i hi with h|h
 ·exact h4 i h
 ·exact .inr (Nat.le_trans h5.size h)
end
theorem j_term {w:World} {F:Nat→Prop} {j d:Nat} {xs:List UInt8} {k:Nat} {s:Js} (h:JAt w F j d xs k s):
  Calls Try.prog 27 #[.pointer (some ⟨j,0,none⟩)] w fun e w' =>e= .returned (.int .i64 s.term)∧w=w' :=by
 obtain ⟨A,c,Fd,h1,h2,h3,h4,h5,h6,h7,h8,c0,c1,c2,c3,hn⟩:=h.open_
 clear h h1 h2 h3 h4 h5 h6 h7 h8 hn
 go_enter Try.func27,Try.ntmps27
 go_wp2_with fail
 go_ret
 exact ⟨rfl,rfl⟩
theorem j_vote {w:World} {F:Nat→Prop} {j d:Nat} {xs:List UInt8} {k:Nat} {s:Js} (h:JAt w F j d xs k s):
  Calls Try.prog 28 #[.pointer (some ⟨j,0,none⟩)] w fun e w' =>e= .returned (.int .i64 s.vote)∧w=w' :=by
 obtain ⟨A,c,Fd,h1,h2,h3,h4,h5,h6,h7,h8,c0,c1,c2,c3,hn⟩:=h.open_
 clear h h1 h2 h3 h4 h5 h6 h7 h8 hn
 go_enter Try.func28,Try.ntmps28
 go_wp2_with fail
 go_ret
 exact ⟨rfl,rfl⟩
theorem j_len {w:World} {F:Nat→Prop} {j d:Nat} {xs:List UInt8} {k:Nat} {s:Js} (h:JAt w F j d xs k s):
  Calls Try.prog 29 #[.pointer (some ⟨j,0,none⟩)] w fun e w' =>e= .returned (.int .i64 (s.log.length:Int))∧w=w' :=by
 obtain ⟨A,c,Fd,h1,h2,h3,h4,h5,h6,h7,h8,c0,c1,c2,c3,hn⟩:=h.open_
 clear h h1 h2 h3 h4 h5 h6 h7 h8 hn
 go_enter Try.func29,Try.ntmps29
 go_wp2_with fail
 go_ret
 exact ⟨rfl,rfl⟩
theorem j_new (w:World):
  Calls Try.prog 9 #[] w fun e w' =>∃j d F,e= .returned (.pointer (some ⟨j,0,none⟩))∧JAt w' F j d [] 0 jsNew∧(∀i,F i→w.heap.size≤i)∧Fr No w w' :=by
 go_enter Try.func9,Try.ntmps9
 go_wp2_with fail
 refine (disk_new _).mono ?_
 rintro e w1 ⟨rfl,h1,f1⟩
 have H1:=Lib.hid h1
 have F1:=Lib.hid f1
 clear h1 f1
 go_wp2_with fail
 go_ret
 have hs:=F1.out.size
 have hd:=H1.out.lt w.heap.size rfl
 refine ⟨w1.heap.size,w.heap.size,fun i=>i=w.heap.size∨i=w1.heap.size,rfl,⟨.slice none 0 0,fun i=>i=w.heap.size,Blk.new _ _ _,.inr rfl,OwnN.nil _ _ _ _,H1.out.frNo (fr_alloc _ _),fun i hi=> .inl hi,?_,fun g hg=>(by cases hg),?_⟩,?_,F1.out.alloc _⟩
 ·intro h
  omega
 ·intro i hi
  simp
  omega
 ·intro i hi
  omega
def atJ (l:List Lg) (i:Int):Lg×Bool:=if 0≤i then (match l[i.toNat]? with|some x=>(x,true)|none=>(lgZero,false)) else (lgZero,false)
theorem atJ_term (l:List Lg) (i:Int):(atJ l i).1.term=termAt l i:=by
 unfold atJ termAt
 split
 ·cases l[i.toNat]? <;>rfl
 ·rfl
end
section
set_option maxHeartbeats 2000000 in
theorem j_at {w:World} {F:Nat→Prop} {j d:Nat} {xs:List UInt8} {k:Nat} {s:Js} (h:JAt w F j d xs k s) (i:Int):
  Calls Try.prog 26 #[.pointer (some ⟨j,0,none⟩),.int .i64 i] w fun e w' =>e= .returned (.tuple #[(atJ s.log i).1.v,.bool (atJ s.log i).2])∧Fr No w w' :=by
 obtain ⟨A,c,Fd,h1,h2,h3,h4,h5,h6,h7,h8,c0,c1,c2,c3,hn⟩:=h.open_
 have hjl:=h1.lt
 clear h h1 h2 h4 h5 h6 h7 h8
 by_cases h0:i<0
 ·have ha:atJ s.log i=(lgZero,false):=by unfold atJ;rw [if_neg (by omega)]
  rw [ha]
  have t1:decide (i<0)=true:=by simpa using h0
  clear ha hn h3
  go_enter Try.func26,Try.ntmps26
  go_wp2_with fail
  refine bodyPost_ret (v:= .tuple #[.agg _,.bool false]) (by simp [results,Try.results26,go_sem]) rfl ⟨rfl,?_⟩
  exact fr_alloc _ _
 ·have t1:decide (i<0)=false:=by simpa using h0
  obtain ⟨n,rfl⟩:∃n:Nat,i=(n:Int):=⟨i.toNat,by omega⟩
  by_cases h9:s.log.length≤n
  ·have ha:atJ s.log (n:Int)=(lgZero,false):=by unfold atJ;rw [if_pos (by omega),Int.toNat_natCast,List.getElem?_eq_none h9]
   rw [ha]
   have t2:decide ((s.log.length:Int)≤(n:Int))=true:=by simpa using h9
   clear ha hn h3
   go_enter Try.func26,Try.ntmps26
   go_wp2_with fail
   refine bodyPost_ret (v:= .tuple #[.agg _,.bool false]) (by simp [results,Try.results26,go_sem]) rfl ⟨rfl,?_⟩
   exact fr_alloc _ _
  ·obtain ⟨x,hx⟩:∃x,s.log[n]? =some x:=⟨_,List.getElem?_eq_getElem (by omega)⟩
   have ha:atJ s.log (n:Int)=(x,true):=by unfold atJ;rw [if_pos (by omega),Int.toNat_natCast,hx]
   rw [ha]
   have t2:decide ((s.log.length:Int)≤(n:Int))=false:=by simp;omega
   obtain ⟨b,rfl,hb,-,hc⟩:=h3.head (by omega)
   have hlt:n<s.log.length:=by omega
   have e0:w.cell? ⟨b,n*10,none⟩=some (.int .i64 x.term):=by rw [←Nat.add_zero (n*10),hc _ (by rw [logV_len];omega),logV_get s.log n 0 x hx (by omega)];rfl
   have e1:w.cell? ⟨b,n*10+1,none⟩=some (.int .i64 x.e.kind):=by rw [hc _ (by rw [logV_len];omega),logV_get s.log n 1 x hx (by omega)];rfl
   have e2:w.cell? ⟨b,n*10+2,none⟩=some (.int .i64 x.e.tick):=by rw [hc _ (by rw [logV_len];omega),logV_get s.log n 2 x hx (by omega)];rfl
   have e3:w.cell? ⟨b,n*10+3,none⟩=some (.int .i64 x.e.tenant):=by rw [hc _ (by rw [logV_len];omega),logV_get s.log n 3 x hx (by omega)];rfl
   have e4:w.cell? ⟨b,n*10+4,none⟩=some (.int .i64 x.e.cell):=by rw [hc _ (by rw [logV_len];omega),logV_get s.log n 4 x hx (by omega)];rfl
   have e5:w.cell? ⟨b,n*10+5,none⟩=some (.int .i64 x.e.other):=by rw [hc _ (by rw [logV_len];omega),logV_get s.log n 5 x hx (by omega)];rfl
   have e6:w.cell? ⟨b,n*10+6,none⟩=some (.int .i64 x.e.epoch):=by rw [hc _ (by rw [logV_len];omega),logV_get s.log n 6 x hx (by omega)];rfl
   have e7:w.cell? ⟨b,n*10+7,none⟩=some (.int .i64 x.e.from_):=by rw [hc _ (by rw [logV_len];omega),logV_get s.log n 7 x hx (by omega)];rfl
   have e8:w.cell? ⟨b,n*10+8,none⟩=some (.int .i64 x.e.until_):=by rw [hc _ (by rw [logV_len];omega),logV_get s.log n 8 x hx (by omega)];rfl
   have e9:w.cell? ⟨b,n*10+9,none⟩=some (.int .i64 x.e.n):=by rw [hc _ (by rw [logV_len];omega),logV_get s.log n 9 x hx (by omega)];rfl
   clear ha hn h3 hc h9
   have HX:=Lib.hid hx
   clear hx
   go_enter Try.func26,Try.ntmps26
   go_wp2_with fail
   refine bodyPost_ret (v:= .tuple #[.agg _,.bool true]) (by simp [results,Try.results26,go_sem]) rfl ⟨rfl,?_⟩
   exact fr_alloc _ _
theorem j_termAt {w:World} {F:Nat→Prop} {j d:Nat} {xs:List UInt8} {k:Nat} {s:Js} (h:JAt w F j d xs k s) (i:Int):
  Calls Try.prog 42 #[.pointer (some ⟨j,0,none⟩),.int .i64 i] w fun e w' =>e= .returned (.int .i64 (termAt s.log i))∧Fr No w w' :=by
 have hA:=j_at h i
 rw [←atJ_term]
 revert hA
 generalize (atJ s.log i).1=x
 generalize (atJ s.log i).2=b
 intro hA
 unfold Lg.v at hA
 have HA:=Lib.hid hA
 clear hA
 clear h
 go_enter Try.func42,Try.ntmps42
 go_wp2_with fail
 refine HA.out.mono ?_
 rintro e w1 ⟨rfl,f1⟩
 have F1:=Lib.hid f1
 clear f1
 go_wp2_with fail
 go_ret
 exact ⟨rfl,F1.out.alloc _⟩
section
variable {w:World} {F:Nat→Prop} {j d:Nat} {xs:List UInt8} {k:Nat} {s:Js} {v:Value} {Fd:Nat→Prop}
theorem JAt.setTV (t u:Int) (h1:Blk w j TJ #[.pointer (some ⟨d,0,none⟩),.int .i64 s.term,.int .i64 s.vote,v]) (h2:F j) (h3:OwnN w F TLg 10 v s.log.length (logV s.log)) (h4:DiskAt w Fd d xs k) (h5:∀i,Fd i→F i) (h6:¬Fd j) (h7:∀g,v.ownBlock=some g→¬Fd g) (h8:∀i,F i→i<w.heap.size):
  JTo w F j d xs k ⟨t,u,s.log⟩ ((w.setCell ⟨j,1,none⟩ (.int .i64 t)).setCell ⟨j,2,none⟩ (.int .i64 u)):=by
 have hf:Fr (fun i=>i=j) w ((w.setCell ⟨j,1,none⟩ (.int .i64 t)).setCell ⟨j,2,none⟩ (.int .i64 u)):=((Fr.refl (fun i=>i=j) w).setCell (p:=⟨j,1,none⟩) (.inl rfl) _).setCell (p:=⟨j,2,none⟩) (.inl rfl) _
 refine ⟨F,⟨v,Fd,(h1.set_ 1 _).set_ 2 _,h2,h3.fr' hf (h3.ne_blk h1 (by decide)),h4.fr hf (fun i hi he=>h6 (he▸hi)),h5,h6,h7,fun i hi=>Nat.lt_of_lt_of_le (h8 i hi) hf.size⟩,fun i hi=> .inl hi,hf.mono fun i hi=>hi▸h2⟩
theorem JAt.setLog {v' :Value} {l:List Lg} (h1:Blk w j TJ #[.pointer (some ⟨d,0,none⟩),.int .i64 s.term,.int .i64 s.vote,v]) (h2:F j) (h3:OwnN w F TLg 10 v' l.length (logV l)) (h4:DiskAt w Fd d xs k) (h5:∀i,Fd i→F i) (h6:¬Fd j) (h7:∀g,v'.ownBlock=some g→¬Fd g) (h8:∀i,F i→i<w.heap.size):
  JTo w F j d xs k ⟨s.term,s.vote,l⟩ (w.setCell ⟨j,3,none⟩ v'):=by
 have hf:Fr (fun i=>i=j) w (w.setCell ⟨j,3,none⟩ v'):=(Fr.refl (fun i=>i=j) w).setCell (p:=⟨j,3,none⟩) (.inl rfl) _
 refine ⟨F,⟨v',Fd,h1.set_ 3 _,h2,h3.fr' hf (h3.ne_blk h1 (by decide)),h4.fr hf (fun i hi he=>h6 (he▸hi)),h5,h6,h7,fun i hi=>Nat.lt_of_lt_of_le (h8 i hi) hf.size⟩,fun i hi=> .inl hi,hf.mono fun i hi=>hi▸h2⟩
end
set_option maxHeartbeats 4000000 in
theorem j_setTerm {w:World} {F:Nat→Prop} {j d:Nat} {xs:List UInt8} {k:Nat} {s:Js} (h:JAt w F j d xs k s) (t v:Int):
  Calls Try.prog 48 #[.pointer (some ⟨j,0,none⟩),.int .i64 t,.int .i64 v] w fun e w' =>e= .returned (.int .i64 (setTermX s t v))∧JTo w F j d xs k (setTermS s t v) w' :=by
 have hself:=h.self
 obtain ⟨A,c,Fd,h1,h2,h3,h4,h5,h6,h7,h8,c0,c1,c2,c3,hn⟩:=h.open_
 have hset:=JAt.setTV t v h1 h2 h3 h4 h5 h6 h7 h8
 have f1:=h1.frozen 1
 have f2:=h1.frozen 2
 obtain ⟨X,hX⟩:∃X,X=setTermX s t v:=⟨_,rfl⟩
 have hS:setTermS s t v=if X=0 then ⟨t,v,s.log⟩ else s:=by rw [hX];rfl
 rw [hS,←hX]
 unfold setTermX at hX
 clear h h1 h2 h3 h4 h5 h6 h7 h8 hn hS
 have fin0:X=0→JTo w F j d xs k (if X=0 then ⟨t,v,s.log⟩ else s) ((w.setCell ⟨j,1,none⟩ (.int .i64 t)).setCell ⟨j,2,none⟩ (.int .i64 v)):=fun e=>by rw [if_pos e];exact hset
 have fin1:X≠0→JTo w F j d xs k (if X=0 then ⟨t,v,s.log⟩ else s) w:=fun e=>by rw [if_neg e];exact hself
 clear hself hset
 obtain ⟨S,hSS⟩:∃S:Js,S=if X=0 then ⟨t,v,s.log⟩ else s:=⟨_,rfl⟩
 rw [←hSS] at fin0 fin1 ⊢
 clear hSS
 obtain ⟨st,hst⟩:∃st,st=s.term:=⟨_,rfl⟩
 obtain ⟨sv,hsv⟩:∃sv,sv=s.vote:=⟨_,rfl⟩
 rw [←hst] at c1 hX
 rw [←hsv] at c2 hX
 clear hst hsv
 have FIN0:=Lib.hid fin0
 have FIN1:=Lib.hid fin1
 clear fin0 fin1
 by_cases g1:t<0
 ·rw [if_pos (.inl g1)] at hX
  have t1:decide (t<0)=true:=by simpa using g1
  subst hX
  go_enter Try.func48,Try.ntmps48
  go_wp2_with fail
  go_ret
  exact ⟨rfl,FIN1.out (by decide)⟩
 have t1:decide (t<0)=false:=by simpa using g1
 by_cases g2:1073741824<t
 ·rw [if_pos (.inr (.inl g2))] at hX
  have t2:decide (1073741824<t)=true:=by simpa using g2
  subst hX
  go_enter Try.func48,Try.ntmps48
  go_wp2_with fail
  go_ret
  exact ⟨rfl,FIN1.out (by decide)⟩
 have t2:decide (1073741824<t)=false:=by simpa using g2
 by_cases g3:v< -1
 ·rw [if_pos (.inr (.inr (.inl g3)))] at hX
  have t3:decide (v< -1)=true:=by simpa using g3
  subst hX
  go_enter Try.func48,Try.ntmps48
  go_wp2_with fail
  go_ret
  exact ⟨rfl,FIN1.out (by decide)⟩
 have t3:decide (v< -1)=false:=by simpa using g3
 by_cases g4:5≤v
 ·rw [if_pos (.inr (.inr (.inr g4)))] at hX
  have t4:decide (5≤v)=true:=by simpa using g4
  subst hX
  go_enter Try.func48,Try.ntmps48
  go_wp2_with fail
  go_ret
  exact ⟨rfl,FIN1.out (by decide)⟩
 have t4:decide (5≤v)=false:=by simpa using g4
 rw [if_neg (by omega)] at hX
 clear g1 g2 g3 g4
 by_cases g5:t<st
 ·rw [if_pos (.inl g5)] at hX
  have t5:decide (t<st)=true:=by simpa using g5
  subst hX
  go_enter Try.func48,Try.ntmps48
  go_wp2_with fail
  go_ret
  exact ⟨rfl,FIN1.out (by decide)⟩
 have t5:decide (t<st)=false:=by simpa using g5
 by_cases g6:t=st
 ·have t6:(t == st)=true:=by simpa using g6
  by_cases g7:sv= -1
  ·rw [if_neg (by omega)] at hX
   have t7:(sv != -1)=false:=by simpa using g7
   subst hX
   clear g5 g6 g7
   go_enter Try.func48,Try.ntmps48
   go_wp2_with fail
   go_ret
   exact ⟨rfl,FIN0.out (by trivial)⟩
  ·have t7:(sv != -1)=true:=by simpa using g7
   by_cases g8:sv=v
   ·rw [if_neg (by omega)] at hX
    have t8:(sv != v)=false:=by simpa using g8
    subst hX
    clear g5 g6 g7 g8
    go_enter Try.func48,Try.ntmps48
    go_wp2_with fail
    go_ret
    exact ⟨rfl,FIN0.out (by trivial)⟩
   ·rw [if_pos (.inr ⟨g6,g7,g8⟩)] at hX
    have t8:(sv != v)=true:=by simpa using g8
    subst hX
    clear g5 g6 g7 g8
    go_enter Try.func48,Try.ntmps48
    go_wp2_with fail
    go_ret
    exact ⟨rfl,FIN1.out (by decide)⟩
 ·rw [if_neg (by omega)] at hX
  have t6:(t == st)=false:=by simpa using g6
  subst hX
  clear g5 g6
  go_enter Try.func48,Try.ntmps48
  go_wp2_with fail
  go_ret
  exact ⟨rfl,FIN0.out (by trivial)⟩
end
section
theorem log_info:(Try.prog.info? TLg).map (fun i=>(i.zero,i.size,i.bytes))=some (some (.agg #[.int .i64 0,.int .i64 0,.int .i64 0,.int .i64 0,.int .i64 0,.int .i64 0,.int .i64 0,.int .i64 0,.int .i64 0,.int .i64 0]),10,80):=by kernel_rfl
theorem JAt.still {w w' :World} {F:Nat→Prop} {j d:Nat} {xs:List UInt8} {k:Nat} {s:Js} (h:JAt w F j d xs k s) (hf:Fr No w w'):JTo w F j d xs k s w' :=⟨F,h.frNo hf,fun _ hi=> .inl hi,hf.mono fun _ hi=>hi.elim⟩
theorem JAt.added {w w1 w2:World} {F:Nat→Prop} {j d:Nat} {xs:List UInt8} {k:Nat} {s:Js} {v v' :Value} {Fd:Nat→Prop} {x:Lg} (h1:Blk w j TJ #[.pointer (some ⟨d,0,none⟩),.int .i64 s.term,.int .i64 s.vote,v]) (h2:F j) (h3:OwnN w F TLg 10 v s.log.length (logV s.log)) (h4:DiskAt w Fd d xs k) (h5:∀i,Fd i→F i) (h6:¬Fd j) (h7:∀g,v.ownBlock=some g→¬Fd g) (h8:∀i,F i→i<w.heap.size)
  (hf:Fr No w w1) (ha:AppendedN w1 0 TLg 10 v s.log.length (logV s.log) x.cells 1 v' w2):
  Blk w2 j TJ #[.pointer (some ⟨d,0,none⟩),.int .i64 s.term,.int .i64 s.vote,v]∧JTo w F j d xs k ⟨s.term,s.vote,s.log++[x]⟩ (w2.setCell ⟨j,3,none⟩ v'):=by
 have h3' :=h3.frNo hf
 obtain ⟨o1,-⟩:=h3'.appended ha
 have hg:Fr (fun i=>v.ownBlock=some i) w1 w2:=(Fr.refl _ _).grown ha.2.1 fun q hq=> .inl hq
 have hs:=hf.size
 have hb1:=h1.fr hf (fun h=>h)
 have hb2:Blk w2 j TJ #[.pointer (some ⟨d,0,none⟩),.int .i64 s.term,.int .i64 s.vote,v]:=hb1.fr hg (fun h=>h3'.ne_blk hb1 (by decide) j h rfl)
 have hd2:DiskAt w2 Fd d xs k:=(h4.frNo hf).fr hg fun i hi h=>h7 i h hi
 refine ⟨hb2,?_⟩
 rw [←logV_snoc] at o1
 have hjt:=JAt.setLog (F:=fun i=>F i∨(i=w1.heap.size∧i<w2.heap.size)) (s:=s) (v' :=v') (l:=s.log++[x]) hb2 (.inl h2) (by rw [List.length_append];exact o1) hd2 (fun i hi=> .inl (h5 i hi)) h6 (fun g hgv h=>by
   rcases ha.2.2 with e1|e1
   ·exact h7 g (e1.symm.trans hgv) h
   ·rw [e1] at hgv
    injection hgv with hgv
    have:=h8 g (h5 g h)
    omega) (fun i hi=>by
   rcases hi with hi|hi
   ·exact Nat.lt_of_lt_of_le (Nat.lt_of_lt_of_le (h8 i hi) hs) hg.size
   ·exact hi.2)
 obtain ⟨F',g1,g2,g3⟩:=hjt
 refine ⟨F',g1,fun i hi=> ?_,?_⟩
 ·rcases g2 i hi with (h|h)|h
  ·exact .inl h
  ·exact .inr (by omega)
  ·exact .inr (Nat.le_trans (Nat.le_trans hs hg.size) h)
 ·refine (hf.mono (G:=F) fun _ hi=>hi.elim).trans ((hg.mono (G:=fun i=>F i∨w.heap.size≤i) fun i hi=> .inl (h3.2 i hi)).trans (g3.mono (G:=fun i=>F i∨w.heap.size≤i) fun i hi=> ?_) fun i hi=> .inl hi) fun i hi=>hi
  rcases hi with h|h
  ·exact .inl h
  ·exact .inr (by omega)
set_option maxRecDepth 100000 in
set_option maxHeartbeats 8000000 in
theorem j_add {w:World} {F:Nat→Prop} {j d:Nat} {xs:List UInt8} {k:Nat} {s:Js} (h:JAt w F j d xs k s) (hlen:s.log.length≤4096) (t:Int) (e:En):
  Calls Try.prog 43 #[.pointer (some ⟨j,0,none⟩),.int .i64 t,e.v] w fun r w' =>r= .returned (.int .i64 (addX s t e))∧JTo w F j d xs k (addS s t e) w' :=by
 obtain ⟨i0,hi0,hz0,hz1,hz2⟩:=info_parts log_info
 have hsh:=fun V=>shape_any e V
 obtain ⟨X,hX⟩:∃X,X=addX s t e:=⟨_,rfl⟩
 have hS:addS s t e=if X=0 then ⟨s.term,s.vote,s.log++[⟨t,e⟩]⟩ else s:=by rw [hX];rfl
 rw [hS,←hX]
 unfold addX at hX
 revert hsh hX
 generalize shapeB e=b
 intro hsh hX
 clear hS
 obtain ⟨k0,tick,te,ce,ot,ep,fr,un,n⟩:=e
 unfold En.v at*
 have hstill:=fun w' (hf:Fr No w w')=>h.still hf
 have hta:=fun w' (hf:Fr No w w')=>j_termAt (h.frNo hf) ((s.log.length:Int)-1)
 obtain ⟨A,c,Fd,h1,h2,h3,h4,h5,h6,h7,h8,d0,d1,d2,d3,hn⟩:=h.open_
 have hjl:=h1.lt
 have hcap:=h3.cap
 have hput:=fun w1 v' w2 (hf:Fr No w w1) ha=>JAt.added (w2:=w2) (v' :=v') (x:=⟨t,⟨k0,tick,te,ce,ot,ep,fr,un,n⟩⟩) h1 h2 h3 h4 h5 h6 h7 h8 hf ha
 have hown:=fun w' (hf:Fr No w w')=>(h3.frNo hf).1
 have BB:=Lib.hid (Blk.new w TEnt #[.int .i64 k0,.int .i64 tick,.int .i64 te,.int .i64 ce,.int .i64 ot,.int .i64 ep,.int .i64 fr,.int .i64 un,.int .i64 n])
 have FF:=Lib.hid (fr_alloc w (.cells #[.int .i64 k0,.int .i64 tick,.int .i64 te,.int .i64 ce,.int .i64 ot,.int .i64 ep,.int .i64 fr,.int .i64 un,.int .i64 n] TEnt))
 obtain ⟨c0,c1,c2,c3,c4,c5,c6,c7,c8⟩:=ent_cells BB.out
 have hwr:IntKind.i64.wrap ((s.log.length:Int)-1)=(s.log.length:Int)-1:=IntWalk.i64_in _ (by omega)
 clear h h2 h3 h4 h5 h6 h7 h8 hn
 generalize termAt s.log ((s.log.length:Int)-1)=lt at*
 have HSH:=Lib.hid hsh
 have HSTILL:=Lib.hid hstill
 have HTA:=Lib.hid hta
 have HPUT:=Lib.hid hput
 have HOWN:=Lib.hid hown
 have H1:=Lib.hid h1
 clear hsh hstill hta hput hown h1
 by_cases g1:t<1
 ·rw [if_pos (.inl g1)] at hX
  have t1:decide (t<1)=true:=by simpa using g1
  subst hX
  go_enter Try.func43,Try.ntmps43
  go_wp2_with fail
  go_ret
  exact ⟨rfl,HSTILL.out _ FF.out⟩
 have t1:decide (t<1)=false:=by simpa using g1
 by_cases g2:1073741824<t
 ·rw [if_pos (.inr (.inl g2))] at hX
  have t2:decide (1073741824<t)=true:=by simpa using g2
  subst hX
  go_enter Try.func43,Try.ntmps43
  go_wp2_with fail
  go_ret
  exact ⟨rfl,HSTILL.out _ FF.out⟩
 have t2:decide (1073741824<t)=false:=by simpa using g2
 have HX:=Lib.hid hX
 clear hX
 go_enter Try.func43,Try.ntmps43
 go_wp2_with fail
 refine (HSH.out _).mono ?_
 rintro r w5 ⟨rfl,f5⟩
 replace FF:=Lib.hid (FF.out.transNo f5)
 replace BB:=Lib.hid (BB.out.fr f5 (fun h=>h))
 clear f5 c0 c1 c2 c3 c4 c5 c6 c7 c8 d0 d1 d2 d3
 obtain ⟨c0,c1,c2,c3,c4,c5,c6,c7,c8⟩:=ent_cells BB.out
 have hb5:=H1.out.fr FF.out (fun h=>h)
 have d1:w5.cell? ⟨j,1,none⟩=some (.int .i64 s.term):=hb5.cell 1
 have d3:w5.cell? ⟨j,3,none⟩=some (.slice A s.log.length c):=hb5.cell 3
 have hjl5:=hb5.lt
 clear hb5
 cases b
 ·have hX:=HX.out
  rw [if_pos (.inr (.inr rfl))] at hX
  subst hX
  clear HX
  go_wp2_with fail
  go_ret
  exact ⟨rfl,HSTILL.out _ FF.out⟩
 have hX:=HX.out
 rw [if_neg (by simp;omega)] at hX
 clear HX
 by_cases g3:s.term<t
 ·rw [if_pos (.inl g3)] at hX
  have t3:decide (s.term<t)=true:=by simpa using g3
  subst hX
  go_wp2_with fail
  go_ret
  exact ⟨rfl,HSTILL.out _ FF.out⟩
 have t3:decide (s.term<t)=false:=by simpa using g3
 have HX:=Lib.hid hX
 clear hX
 go_wp2_with fail
 refine (HTA.out _ FF.out).mono ?_
 rintro r w6 ⟨rfl,f6⟩
 replace FF:=Lib.hid (FF.out.transNo f6)
 replace BB:=Lib.hid (BB.out.fr f6 (fun h=>h))
 clear f6 c0 c1 c2 c3 c4 c5 c6 c7 c8 d1 d3 hjl5
 obtain ⟨c0,c1,c2,c3,c4,c5,c6,c7,c8⟩:=ent_cells BB.out
 have hb5:=H1.out.fr FF.out (fun h=>h)
 have d3:w6.cell? ⟨j,3,none⟩=some (.slice A s.log.length c):=hb5.cell 3
 have q3:=hb5.frozen 3
 have hjl6:=hb5.lt
 have hel:=BB.out.lt
 clear hb5
 have hX:=HX.out
 clear HX
 by_cases g4:t<lt
 ·rw [if_pos (.inr g4)] at hX
  have t4:decide (t<lt)=true:=by simpa using g4
  subst hX
  go_wp2_with fail
  go_ret
  exact ⟨rfl,HSTILL.out _ FF.out⟩
 have t4:decide (t<lt)=false:=by simpa using g4
 rw [if_neg (by omega)] at hX
 by_cases g5:4096≤s.log.length
 ·rw [if_pos g5] at hX
  have t5:decide ((4096:Int)≤(s.log.length:Int))=true:=by simp;omega
  subst hX
  go_wp2_with fail
  go_ret
  exact ⟨rfl,HSTILL.out _ FF.out⟩
 have t5:decide ((4096:Int)≤(s.log.length:Int))=false:=by simp;omega
 rw [if_neg g5] at hX
 subst hX
 go_wp2_with fail
 go_region_law (refine step_append_rdN _ (by rfl) (.tmp 46) (.tmp 50) _ (by rfl) 0 TLg i0 _ 10 80 Try.underlying51 hi0 hz0 hz1 hz2 rfl (by decide) (.slice A s.log.length c) s.log.length (logV s.log) (by rfl) (HOWN.out _ ((FF.out.drew).alloc _)) (w6.heap.size+1) (some ⟨w6.heap.size,0,none⟩) 1 1 (Lg.cells ⟨t,⟨k0,tick,te,ce,ot,ep,fr,un,n⟩⟩) (by rfl) (fun h=>by cases h) (Rd.new w6.drew _ TLg rfl) rfl (by simp [Lg.cells,Value.oneCell']) (by unfold maxLen;omega) (by omega) (Nat.zero_le _) ?_;intro v1 w1 happ;obtain ⟨A4,c4,rfl,n4⟩:=ownsRow_slice_form happ.1;clear n4;obtain ⟨hbj,hjt⟩:=HPUT.out _ _ w1 ((FF.out.drew).alloc _) happ;have x3:w1.cell? ⟨j,3,none⟩=some (.slice A s.log.length c):=hbj.cell 3;have y3:=hbj.frozen 3;have HJT:=Lib.hid hjt;clear happ hbj hjt)
 all_goals
  go_wp2_with fail
  go_ret
  exact ⟨rfl,HJT.out⟩
end
section
theorem JTo.after {w w1 w' :World} {F:Nat→Prop} {j d:Nat} {xs:List UInt8} {k:Nat} {s:Js} (hf:Fr No w w1) (h:JTo w1 F j d xs k s w'):JTo w F j d xs k s w' :=by
 obtain ⟨F',h1,h2,h3⟩:=h
 exact ⟨F',h1,fun i hi=>(h2 i hi).imp id (Nat.le_trans hf.size),(hf.mono (G:=F) fun _ hi=>hi.elim).trans h3 fun i hi=> .inl hi⟩
set_option maxHeartbeats 1000000 in
theorem jints_any (A0:Option Addr) (m c0:Nat) (q:List Int) (w:World) (B0:Nat) (hA0:A0=none→m=0) (hq:q.length=m) (hr0:Rd w B0 A0 (q.map iv)) (hB0:B0≤w.heap.size) (hb:∀x∈q,-9223372036854775808≤x∧x≤9223372036854775807) (hsz:m≤1000):
  Calls Try.prog 45 #[.slice A0 m c0] w fun e w' =>∃A' c',e= .returned (.slice A' (intsF q).length c')∧Own w' (fun i=>w.heap.size≤i) 5 (.slice A' (intsF q).length c') ((intsF q).map bv)∧Fr No w w' :=by
 have HA0:=Lib.hid hA0
 have HQ:=Lib.hid hq
 have HR0:=Lib.hid hr0
 have HB:=Lib.hid hb
 clear hA0 hq hr0 hb
 go_enter Try.func45,Try.ntmps45
 go_wp2_with fail
 go_loopw [3,8] (fun o i wr=>∃(A' :Option Addr) (c' k:Nat) (p:List UInt8),k≤m∧i= .int .i64 k∧p=intsF (q.take k)∧p.length≤10*k∧o= .slice A' p.length c'∧Own wr (fun i=>w.heap.size≤i) 5 (.slice A' p.length c') (p.map bv)∧Fr No w wr) (fun _ i _=>m-(intOf i).toNat)
 case atStart=>exact ⟨none,0,0,[],Nat.zero_le _,rfl,by simp [intsF],by simp,rfl,Own.nil _ _ _,Fr.refl _ _⟩
 case round=>
  obtain ⟨A',c',k,p,hk,rfl,hp,hpl,rfl,ho,hf⟩:=hrel
  have HP:=Lib.hid hp
  have O3:=Lib.hid ho
  have F3:=Lib.hid hf
  have hs3:w.heap.size≤wr.heap.size:=hf.size
  clear hp ho hf
  by_cases hlt:k<m
  ·obtain ⟨b,off,rfl,_,hc⟩:=HR0.out.at_ (by rw [List.length_map,HQ.out];omega)
   have hkl:k<q.length:=by rw [HQ.out];exact hlt
   have hck:=HR0.out.frNo F3.out hB0|>.at_ (by rw [List.length_map,HQ.out];omega)
   obtain ⟨b',off',hbe,_,hc'⟩:=hck
   injection hbe with hbe
   injection hbe with hb1 hb2
   subst hb1 hb2
   have hck:=hc' k (by rw [List.length_map];exact hkl)
   simp only [List.getElem_map] at hck
   have HS:=Lib.hid (List.take_succ_eq_append_getElem hkl)
   have HX:=Lib.hid (HB.out q[k] (List.getElem_mem hkl))
   have hen1:=encN_len10 _ (codeN_lt q[k] HX.out.1 HX.out.2)
   generalize q[k]=x at*
   clear hc hc'
   go_wp2_with fail
   refine (int_any A' p.length c' x p _ _ O3.out.len.2 rfl O3.out.rd (Nat.le_refl _) HX.out.1 HX.out.2 (by omega)).mono ?_
   rintro e w4 ⟨A4,c4,rfl,o4,f4⟩
   have O4:=Lib.hid (o4.mono (G:=fun i=>w.heap.size≤i) fun i hi=>by omega)
   have F4:=Lib.hid (F3.out.transNo f4)
   clear o4 f4
   go_wp2_with fail
   go_roundw
   case rel=>
    refine ⟨A4,c4,k+1,p++encN (codeN x),by omega,by go_num,by rw [HS.out,intsF_snoc,HP.out],by rw [List.length_append];omega,?_,?_,F4.out⟩
    ·rw [List.length_append]
    ·rw [List.length_append];exact O4.out
   case measure=>simp [intOf];omega
  ·have hpe:p=intsF q:=by rw [HP.out,List.take_of_length_le (by rw [HQ.out];omega)]
   subst hpe
   go_wp2_with fail
   go_ret
   exact ⟨A',c',rfl,O3.out,F3.out⟩
set_option maxHeartbeats 2000000 in
theorem j_write {w:World} {F:Nat→Prop} {j d:Nat} {xs:List UInt8} {k:Nat} {s:Js} (h:JAt w F j d xs k s) (A:Option Addr) (m c:Nat) (r:List UInt8) (B:Nat) (hA:A=none→m=0) (hr:Rd w B A (r.map bv)) (hm:r.length=m) (hB:B≤w.heap.size) (hm2:m≤65536) (hsz:xs.length+18+m≤140737488355328):
  Calls Try.prog 44 #[.pointer (some ⟨j,0,none⟩),.slice A m c] w fun e w' =>e= .returned (.tuple #[])∧JTo w F j d (xs++putN 8 r) k s w' :=by
 obtain ⟨A1,c1,Fd,h1,h2,h3,h4,h5,h6,h7,h8,d0,d1,d2,d3,hn⟩:=h.open_
 have hjl:=h1.lt
 have hpl:=putN_lenP 8 r (by omega)
 have hput:=fun V (hf:Fr No w V)=>put_short none 0 0 8 A m c [] r V B (fun _=>rfl) rfl (.inl rfl) hA hm (hr.frNo hf hB) (Nat.le_trans hB hf.size) (by omega) hm2
 simp only [List.nil_append] at hput
 have hdsk:=fun V (hf:Fr No w V) A2 c2 B2 (h:Own V (fun i=>B2≤i) 5 (.slice A2 (putN 8 r).length c2) ((putN 8 r).map bv))=>disk_append V Fd d xs k (h4.frNo hf) A2 (putN 8 r).length c2 (putN 8 r) V.heap.size h.len.2 h.rd rfl (by omega)
 have hfin:=fun V V' (hf:Fr No w V) (hd:DiskTo V Fd d (xs++putN 8 r) k V')=>JAt.disk (h1.fr hf (fun h=>h)) h2 (h3.frNo hf) h5 h6 h7 (fun i hi=>Nat.lt_of_lt_of_le (h8 i hi) hf.size) hd
 have hcell:=fun V V' (hf:Fr No w V) (hd:DiskTo V Fd d (xs++putN 8 r) k V')=>(((h1.fr hf (fun h=>h)).fr (let ⟨_,_,_,g⟩:=hd;g:Fr Fd V V') h6).cell 0:V'.cell? ⟨j,0,none⟩=some (.pointer (some ⟨d,0,none⟩)))
 have hcel0:=fun V (hf:Fr No w V)=>((h1.fr hf (fun h=>h)).cell 0:V.cell? ⟨j,0,none⟩=some (.pointer (some ⟨d,0,none⟩)))
 clear h h1 h2 h3 h4 h5 h6 h7 h8 hn d1 d2 d3
 generalize putN 8 r=R at*
 have HPUT:=Lib.hid hput
 have HDSK:=Lib.hid hdsk
 have HFIN:=Lib.hid hfin
 have HCELL:=Lib.hid hcell
 have HCEL0:=Lib.hid hcel0
 clear hput hdsk hfin hcell hcel0
 go_enter Try.func44,Try.ntmps44
 go_wp2_with fail
 go_region_held3 (fun V=>V.cell? ⟨j,0,none⟩=some (.pointer (some ⟨d,0,none⟩))) (first|exact q2|exact q1|exact d0) (first
  |(go_at_call 51;refine (HPUT.out _ (Fr.refl No w).drew).mono ?_;rintro e w5 ⟨A5,c5,rfl,o5,f5⟩;have FF:=Lib.hid ((Fr.refl No w).drew.transNo f5);have q1:=HCEL0.out _ FF.out;have O5:=Lib.hid o5;clear o5 f5)
  |(go_at_call 50;refine (HDSK.out _ FF.out _ _ _ O5.out).mono ?_;rintro e w6 ⟨rfl,d6⟩;have q2:=HCELL.out _ _ FF.out d6;have D6:=Lib.hid (JTo.after FF.out (HFIN.out _ _ FF.out d6));clear d6))
 go_wp2_with fail
 go_end0
 exact ⟨rfl,D6.out⟩
theorem j_sync {w:World} {F:Nat→Prop} {j d:Nat} {xs:List UInt8} {k:Nat} {s:Js} (h:JAt w F j d xs k s):
  Calls Try.prog 38 #[.pointer (some ⟨j,0,none⟩)] w fun e w' =>e= .returned (.tuple #[])∧JTo w F j d xs xs.length s w' :=by
 obtain ⟨A1,c1,Fd,h1,h2,h3,h4,h5,h6,h7,h8,d0,d1,d2,d3,hn⟩:=h.open_
 have hfin:=fun V' (hd:DiskTo w Fd d xs xs.length V')=>JAt.disk h1 h2 h3 h5 h6 h7 h8 hd
 have hsy:=disk_sync w Fd d xs k h4
 clear h h1 h2 h3 h4 h5 h6 h7 h8 hn d1 d2 d3
 have HFIN:=Lib.hid hfin
 have HSY:=Lib.hid hsy
 clear hfin hsy
 go_enter Try.func38,Try.ntmps38
 go_wp2_with fail
 refine HSY.out.mono ?_
 rintro e w1 ⟨rfl,d1⟩
 have D1:=Lib.hid (HFIN.out _ d1)
 clear d1
 go_wp2_with fail
 go_end0
 exact ⟨rfl,D1.out⟩
theorem setX_bd {s:Js} {t v:Int} (h:setTermX s t v=0):0≤t∧t≤1073741824∧-1≤v∧v<5:=by
 unfold setTermX at h
 by_cases hc:t<0∨1073741824<t∨v< -1∨5≤v
 ·rw [if_pos hc] at h
  exact absurd h (by decide)
 ·omega
theorem addX_bd {s:Js} {t:Int} {e:En} (h:addX s t e=0):1≤t∧t≤1073741824∧shapeB e=true∧t≤s.term∧termAt s.log ((s.log.length:Int)-1)≤t∧s.log.length<4096:=by
 unfold addX at h
 by_cases hc:t<1∨1073741824<t∨shapeB e=false
 ·rw [if_pos hc] at h
  exact absurd h (by decide)
 ·rw [if_neg hc] at h
  by_cases hc2:s.term<t∨t<termAt s.log ((s.log.length:Int)-1)
  ·rw [if_pos hc2] at h
   exact absurd h (by decide)
  ·rw [if_neg hc2] at h
   by_cases hc3:4096≤s.log.length
   ·rw [if_pos hc3] at h
    exact absurd h (by decide)
   ·have hs:shapeB e=true:=by
     cases hq:shapeB e
     ·exact absurd (Or.inr (Or.inr hq)) hc
     ·rfl
    exact ⟨by omega,by omega,hs,by omega,by omega,by omega⟩
set_option maxHeartbeats 2000000 in
theorem j_SetTerm {w:World} {F:Nat→Prop} {j d:Nat} {xs:List UInt8} {k:Nat} {s:Js} (h:JAt w F j d xs k s) (t v:Int) (hsz:xs.length+100≤140737488355328):
  Calls Try.prog 41 #[.pointer (some ⟨j,0,none⟩),.int .i64 t,.int .i64 v] w fun e w' =>e= .returned (.int .i64 (setTermX s t v))∧JTo w F j d (if setTermX s t v=0 then xs++putN 8 (recT t v) else xs) k (setTermS s t v) w' :=by
 have hset:=j_setTerm h t v
 have hbd:=fun hx=>setX_bd (s:=s) (t:=t) (v:=v) hx
 revert hset hbd
 generalize setTermX s t v=X
 generalize setTermS s t v=S
 intro hset hbd
 clear h
 obtain ⟨Y,hY⟩:∃Y,Y=if X=0 then xs++putN 8 (recT t v) else xs:=⟨_,rfl⟩
 rw [←hY]
 have HSET:=Lib.hid hset
 have HY:=Lib.hid hY
 clear hset hY
 go_enter Try.func41,Try.ntmps41
 go_wp2_with fail
 refine HSET.out.mono ?_
 rintro e w1 ⟨rfl,j1⟩
 clear HSET
 by_cases hx:X=0
 ·subst hx
  have hb:=hbd rfl
  obtain ⟨F1,a1,i1,f1⟩:=j1
  have hq:∀x∈[(1:Int),t,v],-9223372036854775808≤x∧x≤9223372036854775807:=by
   intro x hx
   simp at hx
   omega
  have hrl:=intsF_len _ hq
  simp only [List.length_cons,List.length_nil] at hrl
  clear hbd
  have A1:=Lib.hid a1
  have I1:=Lib.hid i1
  have F1:=Lib.hid f1
  have HQ:=Lib.hid hq
  clear a1 i1 f1 hq
  have hy:Y=xs++putN 8 (intsF [1,t,v]):=by rw [HY.out,if_pos rfl];rfl
  clear HY
  have HY:=Lib.hid hy
  clear hy
  go_wp2_with fail
  refine (jints_any (some ⟨w1.heap.size,0,none⟩) 3 3 [1,t,v] _ (w1.heap.size+1) (fun h=>by cases h) rfl (Rd.new w1 [.int .i64 1,.int .i64 t,.int .i64 v] 3 rfl) (by simp) HQ.out (by omega)).mono ?_
  rintro e w2 ⟨A2,c2,rfl,o2,f2⟩
  have F2:=Lib.hid ((fr_alloc w1 (.cells #[.int .i64 1,.int .i64 t,.int .i64 v] 3)).transNo f2)
  have O2:=Lib.hid o2
  clear o2 f2
  go_wp2_with fail
  refine (j_write (A1.out.frNo F2.out) A2 _ c2 (intsF [1,t,v]) w2.heap.size O2.out.len.2 O2.out.rd rfl (Nat.le_refl _) (by omega) (by omega)).mono ?_
  rintro e w3 ⟨rfl,j3⟩
  have J3:=Lib.hid (JTo.after F2.out j3)
  clear j3
  go_wp2_with fail
  go_ret
  refine ⟨rfl,?_⟩
  rw [HY.out]
  obtain ⟨F',g1,g2,g3⟩:=J3.out
  exact ⟨F',g1,fun i hi=>(g2 i hi).elim (fun h=>I1.out i h) (fun h=> .inr (Nat.le_trans F1.out.size h)),F1.out.trans g3 I1.out⟩
 ·have b1:(X == 0)=false:=by simpa using hx
  have b2:(X != 0)=true:=by simpa using hx
  have hy:Y=xs:=by rw [HY.out,if_neg hx]
  clear hbd HY
  have J1:=Lib.hid j1
  have HX:=Lib.hid hx
  have HY:=Lib.hid hy
  clear j1 hx hy
  go_wp2_with fail
  go_ret
  exact ⟨rfl,by rw [HY.out];exact J1.out⟩
end
section
set_option maxRecDepth 100000 in
set_option maxHeartbeats 4000000 in
theorem j_Append {w:World} {F:Nat→Prop} {j d:Nat} {xs:List UInt8} {k:Nat} {s:Js} (h:JAt w F j d xs k s) (hlen:s.log.length≤4096) (t:Int) (e:En) (he:e.ok) (hsz:xs.length+200≤140737488355328):
  Calls Try.prog 37 #[.pointer (some ⟨j,0,none⟩),.int .i64 t,e.v] w fun r w' =>r= .returned (.int .i64 (addX s t e))∧JTo w F j d (if addX s t e=0 then xs++putN 8 (recE t e) else xs) k (addS s t e) w' :=by
 obtain ⟨i0,hi0,hz0,hz1,hz2⟩:=info_parts bytes_info
 have hadd:=fun W (hf:Fr No w W)=>j_add (h.frNo hf) hlen t e
 have hbd:=fun hx=>addX_bd (s:=s) (t:=t) (e:=e) hx
 have hlt:=h.lt
 have hby:=fun V=>bytes_any e V he
 have hbl:=enB_len e he
 obtain ⟨X,hX⟩:∃X,X=addX s t e:=⟨_,rfl⟩
 obtain ⟨S,hS⟩:∃S,S=addS s t e:=⟨_,rfl⟩
 rw [←hX] at hbd
 simp only [←hX,←hS] at hadd
 rw [←hX,←hS]
 clear hX hS h he
 obtain ⟨Y,hY⟩:∃Y,Y=if X=0 then xs++putN 8 (recE t e) else xs:=⟨_,rfl⟩
 rw [←hY]
 unfold recE at hY
 generalize enB e=EB at*
 obtain ⟨k0,tick,te,ce,ot,ep,fr,un,n⟩:=e
 unfold En.v at*
 have BB:=Lib.hid (Blk.new w TEnt #[.int .i64 k0,.int .i64 tick,.int .i64 te,.int .i64 ce,.int .i64 ot,.int .i64 ep,.int .i64 fr,.int .i64 un,.int .i64 n])
 have FF:=Lib.hid (fr_alloc w (.cells #[.int .i64 k0,.int .i64 tick,.int .i64 te,.int .i64 ce,.int .i64 ot,.int .i64 ep,.int .i64 fr,.int .i64 un,.int .i64 n] TEnt))
 obtain ⟨c0,c1,c2,c3,c4,c5,c6,c7,c8⟩:=ent_cells BB.out
 obtain ⟨W0,hW0⟩:∃W0,W0=w.alloc (.cells #[.int .i64 k0,.int .i64 tick,.int .i64 te,.int .i64 ce,.int .i64 ot,.int .i64 ep,.int .i64 fr,.int .i64 un,.int .i64 n] TEnt):=⟨_,rfl⟩
 have hs0:W0.heap.size=w.heap.size+1:=by rw [hW0];simp
 have HADD:=Lib.hid hadd
 have HY:=Lib.hid hY
 have HBY:=Lib.hid hby
 have HLT:=Lib.hid hlt
 clear hadd hY hby hlt
 go_enter Try.func37,Try.ntmps37
 go_wp2_with fail
 rw [←hW0] at BB FF ⊢
 refine (HADD.out _ FF.out).mono ?_
 rintro r W ⟨rfl,j1⟩
 clear HADD c0 c1 c2 c3 c4 c5 c6 c7 c8 hW0
 by_cases hx:X=0
 ·subst hx
  have hb:=hbd rfl
  obtain ⟨G1,a1,i1,f1⟩:=j1
  obtain ⟨g,hg⟩:∃g,g=w.heap.size:=⟨_,rfl⟩
  rw [←hg] at BB ⊢
  have hg1:¬G1 g:=by
   intro hh
   rcases i1 g hh with h|h
   ·have:=HLT.out g h
    omega
   ·omega
  have hg0:¬F g:=by
   intro hh
   have:=HLT.out g hh
   omega
  have b5:Blk W g TEnt #[.int .i64 k0,.int .i64 tick,.int .i64 te,.int .i64 ce,.int .i64 ot,.int .i64 ep,.int .i64 fr,.int .i64 un,.int .i64 n]:=BB.out.fr f1 hg0
  have hq:∀x∈[(2:Int),t],-9223372036854775808≤x∧x≤9223372036854775807:=by
   intro x hx
   simp at hx
   omega
  have hrl:=intsF_len _ hq
  simp only [List.length_cons,List.length_nil] at hrl
  have hS:∀V,Fr G1 W V→V.cell? ⟨g,0,none⟩=some (.int .i64 k0)∧V.cell? ⟨g,1,none⟩=some (.int .i64 tick)∧V.cell? ⟨g,2,none⟩=some (.int .i64 te)∧V.cell? ⟨g,3,none⟩=some (.int .i64 ce)∧V.cell? ⟨g,4,none⟩=some (.int .i64 ot)∧V.cell? ⟨g,5,none⟩=some (.int .i64 ep)∧V.cell? ⟨g,6,none⟩=some (.int .i64 fr)∧V.cell? ⟨g,7,none⟩=some (.int .i64 un)∧V.cell? ⟨g,8,none⟩=some (.int .i64 n):=fun V hV=>⟨(b5.fr hV hg1).cell 0,(b5.fr hV hg1).cell 1,(b5.fr hV hg1).cell 2,(b5.fr hV hg1).cell 3,(b5.fr hV hg1).cell 4,(b5.fr hV hg1).cell 5,(b5.fr hV hg1).cell 6,(b5.fr hV hg1).cell 7,(b5.fr hV hg1).cell 8⟩
  have hy:Y=xs++putN 8 (intsF [2,t]++EB):=by rw [HY.out,if_pos rfl]
  have f2:=FF.out
  clear hbd HY BB b5 hg1 hg0 hg FF
  have A1:=Lib.hid a1
  have I1:=Lib.hid i1
  have F1:=Lib.hid f1
  have HQ:=Lib.hid hq
  have HS:=Lib.hid hS
  have HY:=Lib.hid hy
  have F2:=Lib.hid f2
  clear a1 i1 f1 hq hS hy f2
  have HSS:=HS
  go_wp2_with fail
  generalize hIN:intsF [2,t]=IN at*
  refine wp_region_held_drew (S:=fun V=>V.cell? ⟨g,0,none⟩=some (.int .i64 k0)∧V.cell? ⟨g,1,none⟩=some (.int .i64 tick)∧V.cell? ⟨g,2,none⟩=some (.int .i64 te)∧V.cell? ⟨g,3,none⟩=some (.int .i64 ce)∧V.cell? ⟨g,4,none⟩=some (.int .i64 ot)∧V.cell? ⟨g,5,none⟩=some (.int .i64 ep)∧V.cell? ⟨g,6,none⟩=some (.int .i64 fr)∧V.cell? ⟨g,7,none⟩=some (.int .i64 un)∧V.cell? ⟨g,8,none⟩=some (.int .i64 n)) (by kernel_rfl) (HSS.out _ ((Fr.refl G1 W).drew)) (fun hHeld=> ?_)
  refine wpAnyH_take (i:=0) (v:= ?_) rfl (by kernel_rfl) (by kernel_rfl) (by kernel_rfl) (fun _ _ _ h=>h) (Or.inl ⟨by rfl,?_⟩) (by assumption) ?_
  rotate_left
  ·(intro w hSw;(try dsimp only at hSw);go_simp)<;>with_reducible rfl
  simp only [Act.put,List.setIfInBounds_toArray,List.set_cons_zero,List.set_cons_succ,List.getElem_toArray,List.getElem_cons_zero]
  refine wpAnyH_take (i:=1) (v:= ?_) rfl (by kernel_rfl) (by kernel_rfl) (by kernel_rfl) (fun _ _ _ h=>h) (Or.inl ⟨by rfl,?_⟩) (by assumption) ?_
  rotate_left
  ·(intro w hSw;(try dsimp only at hSw);go_simp)<;>with_reducible rfl
  simp only [Act.put,List.setIfInBounds_toArray,List.set_cons_zero,List.set_cons_succ,List.getElem_toArray,List.getElem_cons_zero,List.getElem_cons_succ]
  refine wpAnyH_take (i:=4) (v:= ?_) rfl (by kernel_rfl) (by kernel_rfl) (by kernel_rfl) (fun _ _ _ h=>h) (Or.inl ⟨by rfl,?_⟩) (by assumption) ?_
  rotate_left
  ·(intro w hSw;(try dsimp only at hSw);go_simp)<;>with_reducible rfl
  simp only [Act.put,List.setIfInBounds_toArray,List.set_cons_zero,List.set_cons_succ,List.getElem_toArray,List.getElem_cons_zero,List.getElem_cons_succ]
  refine wpAnyH_ready (rs:=[2]) (by kernel_rfl) (by simp) (AllReadyH.cons rfl (fun K hK=> ?_) AllReadyH.nil)
  go_simp
  clear hHeld
  refine hK.out _ _ (HSS.out _ (((Fr.refl G1 W).drew).alloc _)) (fun hHeld=> ?_)
  clear hK K
  try simp only [Act.put,List.setIfInBounds_toArray,List.set_cons_zero,List.set_cons_succ,List.getElem_toArray,List.getElem_cons_zero,List.getElem_cons_succ]
  refine wpAnyH_ready (rs:=[3]) (by kernel_rfl) (by simp) (AllReadyH.cons rfl (fun K hK=> ?_) AllReadyH.nil)
  go_simp
  refine (jints_any (some ⟨W.heap.size,0,none⟩) 2 2 [2,t] _ (W.heap.size+1) (fun h=>by cases h) rfl (Rd.new W.drew [.int .i64 2,.int .i64 t] 3 rfl) (by simp) HQ.out (by omega)).mono ?_
  rintro e w4 ⟨A4,d4,rfl,o4,f4⟩
  rw [hIN] at o4 ⊢
  have q4:=Lib.hid ((((Fr.refl No W).drew).alloc (.cells #[.int .i64 2,.int .i64 t] 3)).transNo f4)
  have O4:=Lib.hid (o4.mono (G:=fun i=>W.heap.size≤i) fun i hi=>by simp at hi;omega)
  clear o4 f4
  go_wp2_with fail
  clear hHeld
  refine hK.out _ _ (HSS.out _ (q4.out.mono fun _ h=>h.elim)) (fun hHeld=> ?_)
  clear hK K
  try simp only [Act.put,List.setIfInBounds_toArray,List.set_cons_zero,List.set_cons_succ,List.getElem_toArray,List.getElem_cons_zero,List.getElem_cons_succ]
  refine wpAnyH_ready (rs:=[5]) (by kernel_rfl) (by simp) (AllReadyH.cons rfl (fun K hK=> ?_) AllReadyH.nil)
  go_simp
  refine (HBY.out _).mono ?_
  rintro e w5 ⟨A5,d5,rfl,o5,f5⟩
  have q5:=Lib.hid (q4.out.transNo f5)
  have P4:=Lib.hid (O4.out.frNo f5)
  have O5:=Lib.hid o5
  clear o5 f5 q4 O4
  go_wp2_with fail
  clear hHeld
  refine hK.out _ _ (HSS.out _ (q5.out.mono fun _ h=>h.elim)) (fun hHeld=> ?_)
  clear hK K
  try simp only [Act.put,List.setIfInBounds_toArray,List.set_cons_zero,List.set_cons_succ,List.getElem_toArray,List.getElem_cons_zero,List.getElem_cons_succ]
  refine wpAnyH_ready (rs:=[6]) (by kernel_rfl) (by simp) (AllReadyH.cons rfl (fun K hK=> ?_) AllReadyH.nil)
  refine step_append_rd _ (by rfl) (.tmp 18) (.tmp 20) _ (by rfl) 0 5 i0 _ 1 Try.underlying77 hi0 hz0 hz1 hz2 rfl (.slice A4 IN.length d4) IN.length (IN.map bv) (by rfl) (P4.out.own (by rw [List.length_map])) w5.heap.size A5 EB.length d5 (EB.map bv) (by rfl) O5.out.len.2 O5.out.rd (by rw [List.length_map]) (bv_one _) (by unfold maxLen;omega) (by omega) (Nat.zero_le _) ?_
  intro v6 w6 happ
  obtain ⟨o6,f6⟩:=P4.out.appended (by rw [List.length_map]) (by rw [List.length_map]) happ
  rw [←List.map_append] at o6
  obtain ⟨A6,d6,rfl,n6⟩:=o6.form
  rw [List.length_map,List.length_append] at o6 ⊢
  have q6:=Lib.hid (q5.out.transNew f6 fun i hi=>hi)
  have O6:=Lib.hid o6
  clear happ o6 f6 n6 P4 O5 q5 hHeld
  refine hK.out _ _ (HSS.out _ (q6.out.mono fun _ h=>h.elim)) (fun hHeld=> ?_)
  clear hK K
  try simp only [Act.put,List.setIfInBounds_toArray,List.set_cons_zero,List.set_cons_succ,List.getElem_toArray,List.getElem_cons_zero,List.getElem_cons_succ]
  refine wpAnyH_ready (rs:=[7]) (by kernel_rfl) (by simp) (AllReadyH.cons rfl (fun K hK=> ?_) AllReadyH.nil)
  go_simp
  refine (j_write (A1.out.frNo q6.out) A6 (IN.length+EB.length) d6 (IN++EB) w6.heap.size O6.out.len.2 O6.out.rd List.length_append (Nat.le_refl _) (by omega) (by omega)).mono ?_
  rintro e w7 ⟨rfl,j7⟩
  have q7:Hid (Fr G1 W w7):=Lib.hid (let ⟨_,_,_,g⟩:=JTo.after q6.out j7;g)
  have J7:=Lib.hid (JTo.after q6.out j7)
  clear j7
  go_wp2_with fail
  clear hHeld
  refine hK.out _ _ (HSS.out _ q7.out) (fun hHeld=> ?_)
  clear hK K
  try simp only [Act.put,List.setIfInBounds_toArray,List.set_cons_zero,List.set_cons_succ,List.getElem_toArray,List.getElem_cons_zero,List.getElem_cons_succ]
  refine wpAnyH_done (by kernel_rfl) ?_ _
  go_wp2_with fail
  go_ret
  refine ⟨rfl,?_⟩
  rw [HY.out]
  obtain ⟨F',g1,g2,g3⟩:=J7.out
  refine JTo.after F2.out ⟨F',g1,fun i hi=>(g2 i hi).elim (fun h=>I1.out i h) (fun h=> .inr (Nat.le_trans F1.out.size h)),F1.out.trans g3 I1.out⟩
 ·have b1:(X == 0)=false:=by simpa using hx
  have b2:(X != 0)=true:=by simpa using hx
  have hy:Y=xs:=by rw [HY.out,if_neg hx]
  have j2:=JTo.after FF.out j1
  clear hbd HY j1 FF BB
  have J2:=Lib.hid j2
  have HX:=Lib.hid hx
  have HY:=Lib.hid hy
  clear j2 hx hy
  go_wp2_with fail
  go_ret
  exact ⟨rfl,by rw [HY.out];exact J2.out⟩
end
section
theorem setTermS_no {s:Js} {t v:Int} (h:setTermX s t v≠0):setTermS s t v=s:=by unfold setTermS;rw [if_neg h]
theorem addS_no {s:Js} {t:Int} {e:En} (h:addX s t e≠0):addS s t e=s:=by unfold addS;rw [if_neg h]
end
section
structure Ms where
 kind:Int
 from_:Int
 to_:Int
 term:Int
 index:Int
 prev:Int
 commit:Int
 ok:Bool
 es:List Lg
structure Rs where
 js:Js
 id:Nat
 n:Nat
 role:Int
 commit:Nat
 votes:Nat
 next:Nat→Nat
 mtch:Nat→Nat
def repNew (id n:Nat):Rs:=⟨jsNew,id,n,1,0,0,fun _=>0,fun _=>0⟩
def lastT (l:List Lg):Int:=termAt l ((l.length:Int)-1)
def others (id n:Nat):List Nat:=(List.range n).filter (·!= id)
def Rs.vote (r:Rs) (dst:Nat):Ms:=⟨1,r.id,dst,r.js.term,r.js.log.length,lastT r.js.log,0,false,[]⟩
def Rs.app (r:Rs) (dst:Nat):Ms:=⟨3,r.id,dst,r.js.term,r.next dst,termAt r.js.log ((r.next dst:Int)-1),r.commit,false,r.js.log.drop (r.next dst)⟩
def Rs.toAll (r:Rs):List Ms:=(others r.id r.n).map r.app
def Rs.lead (r:Rs):Rs:={r with role:=3,next:=fun _=>r.js.log.length,mtch:=fun _=>0}
def Rs.stores (r:Rs) (m:Nat):Nat→Nat
 |0=>1
 |k+1=>r.stores m k+if k≠r.id∧m≤r.mtch k then 1 else 0
def Rs.advG (r:Rs):Nat→Nat
 |0=>r.commit
 |m+1=>if m+1≤r.commit then r.commit else if termAt r.js.log (m:Int)=r.js.term∧r.n<2*r.stores (m+1) r.n then m+1 else r.advG m
def Rs.advance (r:Rs):Rs:={r with commit:=r.advG r.js.log.length}
def Rs.campaign (r:Rs):Rs×List Ms:=
 if 1073741824≤r.js.term then (r,[]) else
 if r.n=1 then (({r with js:=⟨r.js.term+1,r.id,r.js.log⟩,role:=2,votes:=2 ^ r.id}:Rs).lead,[]) else
 (({r with js:=⟨r.js.term+1,r.id,r.js.log⟩,role:=2,votes:=2 ^ r.id}:Rs),(others r.id r.n).map ({r with js:=⟨r.js.term+1,r.id,r.js.log⟩,role:=2,votes:=2 ^ r.id}:Rs).vote)
def Rs.proposed (r:Rs) (e:En):Rs:=({r with js:=addS r.js r.js.term e}:Rs).advance
def Rs.propX (r:Rs) (e:En):Int:=if r.role≠3 then 4 else addX r.js r.js.term e
def Rs.propose (r:Rs) (e:En):Rs×List Ms:=if r.propX e=0 then (r.proposed e,(r.proposed e).toAll) else (r,[])
structure LogOk (l:List Lg) (hi:Int):Prop where
 few:l.length≤4096
 each:∀x∈l,1≤x.term∧x.term≤hi∧shapeB x.e=true∧x.e.ok
 asc:∀(i j:Nat) (x y:Lg),i≤j→l[i]? =some x→l[j]? =some y→x.term≤y.term
structure RsOk (r:Rs):Prop where
 log:LogOk r.js.log r.js.term
 lo:0≤r.js.term
 hi:r.js.term≤1073741824
 vlo: -1≤r.js.vote
 vhi:r.js.vote<5
 idn:r.id<r.n
 five:r.n≤5
 role:r.role=1∨r.role=2∨r.role=3
 com:r.commit≤r.js.log.length
 vts:r.votes<32
 nxt:r.role=3→∀i,r.next i≤r.js.log.length
 mts:r.role=3→∀i,r.mtch i≤r.js.log.length
theorem LogOk.nil (hi:Int):LogOk [] hi:=⟨by simp,(fun x h=>by cases h),fun i j x y _ h=>by simp at h⟩
theorem LogOk.up {l:List Lg} {a b:Int} (h:LogOk l a) (hab:a≤b):LogOk l b:=⟨h.few,fun x hx=>by obtain ⟨h1,h2,h3⟩:=h.each x hx;exact ⟨h1,by omega,h3⟩,h.asc⟩
theorem LogOk.take {l:List Lg} {a:Int} (h:LogOk l a) (k:Nat):LogOk (l.take k) a:=by
 refine ⟨by have:=h.few;rw [List.length_take];omega,fun x hx=>h.each x (List.mem_of_mem_take hx),fun i j x y hij hx hy=> ?_⟩
 rw [List.getElem?_take] at hx hy
 split at hx
 ·split at hy
  ·exact h.asc i j x y hij hx hy
  ·cases hy
 ·cases hx
theorem termAt_at {l:List Lg} {k:Nat} {x:Lg} (h:l[k]? =some x):termAt l (k:Int)=x.term:=by
 unfold termAt
 rw [if_pos (by omega),Int.toNat_natCast,h]
 rfl
theorem LogOk.mono {l:List Lg} {a:Int} (h:LogOk l a) {i j:Nat} (hij:i≤j) (hj:j<l.length):termAt l (i:Int)≤termAt l (j:Int):=by
 obtain ⟨x,hx⟩:∃x,l[i]? =some x:=⟨_,List.getElem?_eq_getElem (by omega)⟩
 obtain ⟨y,hy⟩:∃y,l[j]? =some y:=⟨_,List.getElem?_eq_getElem hj⟩
 rw [termAt_at hx,termAt_at hy]
 exact h.asc i j x y hij hx hy
theorem LogOk.snoc {l:List Lg} {a:Int} (h:LogOk l a) {x:Lg} (h1:1≤x.term) (h2:x.term≤a) (h3:shapeB x.e=true) (h4:x.e.ok) (h5:lastT l≤x.term) (h6:l.length<4096):LogOk (l++[x]) a:=by
 have hl:∀(i:Nat) (y:Lg),l[i]? =some y→y.term≤x.term:=fun i y hy=>by
  have hi:=(List.getElem?_eq_some_iff.1 hy).1
  obtain ⟨z,hz⟩:∃z,l[l.length-1]? =some z:=⟨_,List.getElem?_eq_getElem (by omega)⟩
  have:=h.asc i (l.length-1) y z (by omega) hy hz
  have h7:lastT l=z.term:=by unfold lastT;rw [show ((l.length:Int)-1)=((l.length-1:Nat):Int) from by omega,termAt_at hz]
  omega
 refine ⟨by simp;omega,fun y hy=> ?_,fun i j y z hij hy hz=> ?_⟩
 ·rcases List.mem_append.1 hy with hy|hy
  ·exact h.each y hy
  ·simp at hy;subst hy;exact ⟨h1,h2,h3,h4⟩
 ·rcases Nat.lt_or_ge j l.length with hj|hj
  ·rw [List.getElem?_append_left (by omega)] at hy
   rw [List.getElem?_append_left hj] at hz
   exact h.asc i j y z hij hy hz
  ·rw [List.getElem?_append_right hj] at hz
   have hj0:j-l.length=0:=by
    have:=(List.getElem?_eq_some_iff.1 hz).1
    simp at this;omega
   rw [hj0] at hz
   simp at hz
   subst hz
   rcases Nat.lt_or_ge i l.length with hi|hi
   ·rw [List.getElem?_append_left hi] at hy
    exact hl i y hy
   ·rw [List.getElem?_append_right hi] at hy
    have hi0:i-l.length=0:=by omega
    rw [hi0] at hy
    simp at hy
    subst hy
    exact Int.le_refl _
theorem setTermS_yes (s:Js) (t v:Int) (h1:0≤t) (h2:t≤1073741824) (h3: -1≤v) (h4:v<5) (h5:s.term<t∨s.term=t∧(s.vote= -1∨s.vote=v)):setTermX s t v=0∧setTermS s t v=⟨t,v,s.log⟩:=by
 have hx:setTermX s t v=0:=by
  unfold setTermX
  rw [if_neg (by omega),if_neg (by rcases h5 with h5|⟨h5,h6|h6⟩<;>omega)]
 exact ⟨hx,by unfold setTermS;rw [if_pos hx]⟩
theorem addS_yes {s:Js} {t:Int} {e:En} (h:addX s t e=0):addS s t e=⟨s.term,s.vote,s.log++[⟨t,e⟩]⟩:=by unfold addS;rw [if_pos h]
theorem LogOk.add {s:Js} (h:LogOk s.log s.term) (t:Int) (e:En) (he:e.ok):LogOk (addS s t e).log (addS s t e).term:=by
 by_cases h0:addX s t e=0
 ·rw [addS_yes h0]
  obtain ⟨b1,b2,b3,b4,b5,b6⟩:=addX_bd h0
  exact h.snoc b1 b4 b3 he b5 b6
 ·rw [addS_no h0];exact h
theorem addS_tv (s:Js) (t:Int) (e:En):(addS s t e).term=s.term∧(addS s t e).vote=s.vote:=by
 by_cases h0:addX s t e=0
 ·rw [addS_yes h0];exact ⟨rfl,rfl⟩
 ·rw [addS_no h0];exact ⟨rfl,rfl⟩
theorem Rs.advG_bd (r:Rs):∀m,r.commit≤r.advG m∧(r.advG m≤r.commit∨r.advG m≤m):=by
 intro m
 induction m with
 |zero=>exact ⟨Nat.le_refl _,.inl (Nat.le_refl _)⟩
 |succ m ih=>
  simp only [Rs.advG]
  split
  ·exact ⟨Nat.le_refl _,.inl (Nat.le_refl _)⟩
  ·split
   ·exact ⟨by omega,.inr (Nat.le_refl _)⟩
   ·omega
end
section
theorem RsOk.new {id n:Nat} (h1:id<n) (h2:n≤5):RsOk (repNew id n):=
 ⟨LogOk.nil _,by simp [repNew],by simp [repNew],by simp [repNew],by simp [repNew],h1,h2,.inl rfl,Nat.le_refl _,by simp [repNew],fun h=>by simp [repNew] at h,fun h=>by simp [repNew] at h⟩
theorem RsOk.lead {r:Rs} (h:RsOk r):RsOk r.lead:=
 ⟨h.log,h.lo,h.hi,h.vlo,h.vhi,h.idn,h.five,.inr (.inr rfl),h.com,h.vts,fun _ _=>Nat.le_refl _,fun _ _=>Nat.zero_le _⟩
theorem RsOk.advance {r:Rs} (h:RsOk r):RsOk r.advance:=by
 refine ⟨h.log,h.lo,h.hi,h.vlo,h.vhi,h.idn,h.five,h.role,?_,h.vts,h.nxt,h.mts⟩
 have h1:=r.advG_bd r.js.log.length
 have h2:=h.com
 show r.advG r.js.log.length≤r.js.log.length
 omega
theorem RsOk.campaign {r:Rs} (h:RsOk r):RsOk r.campaign.1:=by
 unfold Rs.campaign
 have hid:=h.idn
 have h5:=h.five
 have hlo:=h.lo
 split
 ·exact h
 ·rename_i h0
  have hb:RsOk {r with js:=⟨r.js.term+1,r.id,r.js.log⟩,role:=2,votes:=2 ^ r.id}:=
   ⟨h.log.up (by simp only;omega),by simp only;omega,by simp only;omega,by simp only;omega,by simp only;omega,h.idn,h.five,.inr (.inl rfl),h.com,by
    have:(2:Nat) ^ r.id<2 ^ 5:=Nat.pow_lt_pow_right (by omega) (by omega)
    simpa using this,fun hh=>by simp at hh,fun hh=>by simp at hh⟩
  split
  ·exact hb.lead
  ·exact hb
theorem RsOk.proposed {r:Rs} (h:RsOk r) (e:En) (he:e.ok):RsOk (r.proposed e):=by
 unfold Rs.proposed
 apply RsOk.advance
 have hl:=h.log.add r.js.term e he
 obtain ⟨t1,t2⟩:=addS_tv r.js r.js.term e
 have hlen:r.js.log.length≤(addS r.js r.js.term e).log.length:=by
  by_cases h0:addX r.js r.js.term e=0
  ·rw [addS_yes h0];simp
  ·rw [addS_no h0];exact Nat.le_refl _
 refine ⟨hl,?_,?_,?_,?_,h.idn,h.five,h.role,Nat.le_trans h.com hlen,h.vts,fun hh i=>Nat.le_trans (h.nxt hh i) hlen,fun hh i=>Nat.le_trans (h.mts hh i) hlen⟩
 ·simp only;rw [t1];exact h.lo
 ·simp only;rw [t1];exact h.hi
 ·simp only;rw [t2];exact h.vlo
 ·simp only;rw [t2];exact h.vhi
theorem RsOk.propose {r:Rs} (h:RsOk r) (e:En) (he:e.ok):RsOk (r.propose e).1:=by
 unfold Rs.propose
 split
 ·exact h.proposed e he
 ·exact h
end
section
theorem JTo.then {w w1 w' :World} {F F1:Nat→Prop} {j d:Nat} {ys:List UInt8} {m:Nat} {s' :Js} (hf:Fr F w w1) (hi:∀i,F1 i→F i∨w.heap.size≤i) (h:JTo w1 F1 j d ys m s' w'):JTo w F j d ys m s' w' :=by
 obtain ⟨F2,g3,g4,g5⟩:=h
 exact ⟨F2,g3,fun i h=>(g4 i h).elim (fun h=>hi i h) (fun h=> .inr (Nat.le_trans hf.size h)),hf.trans g5 hi⟩
end
section
def noteE (m:Int):En:=⟨16,0,-1,-1,-1,0,0,0,m⟩
theorem noteE_ok (m:Int) (h:0≤m) (h2:m<1000):(noteE m).ok:=by
 intro x hx
 simp only [noteE,En.l,List.mem_cons,List.not_mem_nil,or_false] at hx
 rcases hx with rfl|rfl|rfl|rfl|rfl|rfl|rfl|rfl|rfl<;>omega
theorem JTo.own {w0 w1 w2:World} {F:Nat→Prop} {j d:Nat} {xs:List UInt8} {k:Nat} {s:Js} (h:JTo w1 F j d xs k s w2) (hf:Fr No w0 w1) (hN:∀i,F i→w0.heap.size≤i):∃F',JAt w2 F' j d xs k s∧(∀i,F' i→w0.heap.size≤i)∧Fr No w0 w2:=by
 obtain ⟨F',g1,g2,g3⟩:=h
 exact ⟨F',g1,fun i hi=>(g2 i hi).elim (fun h=>hN i h) (fun h=>Nat.le_trans hf.size h),hf.transNew g3 hN⟩
end
section
def JG (y:Bool) (w:World) (F:Nat→Prop) (j:Nat) (s:Js) (n:Nat):Prop:=
 ∃d xs k rs,JAt w F j d xs k s∧Good xs s rs∧s.log.length≤4096∧xs.length≤n∧(y=true→k=xs.length)
def JGTo (y:Bool) (w:World) (F:Nat→Prop) (j:Nat) (s:Js) (n:Nat) (w' :World):Prop:=
 ∃F',JG y w' F' j s n∧(∀i,F' i→F i∨w.heap.size≤i)∧Fr F w w'
section
variable {y:Bool} {w w' w1:World} {F G:Nat→Prop} {j:Nat} {s s' :Js} {n m:Nat}
theorem JG.fr (h:JG y w F j s n) (hf:Fr G w w') (hd:∀i,F i→¬G i):JG y w' F j s n:=by
 obtain ⟨d,xs,k,rs,h1,h2⟩:=h
 exact ⟨d,xs,k,rs,h1.fr hf hd,h2⟩
theorem JG.frNo (h:JG y w F j s n) (hf:Fr No w w'):JG y w' F j s n:=h.fr hf fun _ _ hi=>hi
theorem JG.lt (h:JG y w F j s n):∀i,F i→i<w.heap.size:=by
 obtain ⟨d,xs,k,rs,h1,h2⟩:=h
 exact h1.lt
theorem JG.more (h:JG y w F j s n) (hn:n≤m):JG y w F j s m:=by
 obtain ⟨d,xs,k,rs,h1,h2,h3,h4,h5⟩:=h
 exact ⟨d,xs,k,rs,h1,h2,h3,Nat.le_trans h4 hn,h5⟩
theorem JG.few (h:JG y w F j s n):s.log.length≤4096:=by
 obtain ⟨d,xs,k,rs,h1,h2,h3,h4,h5⟩:=h
 exact h3
theorem JG.self (h:JG y w F j s n):JGTo y w F j s n w:=⟨F,h,fun _ hi=> .inl hi,Fr.refl _ _⟩
theorem JG.still (h:JG y w F j s n) (hf:Fr No w w'):JGTo y w F j s n w' :=⟨F,h.frNo hf,fun _ hi=> .inl hi,hf.mono fun _ hi=>hi.elim⟩
theorem JGTo.trans {y' :Bool} (h:JGTo y w F j s n w1) (h2:∀F',JG y w1 F' j s n→JGTo y' w1 F' j s' m w'):JGTo y' w F j s' m w' :=by
 obtain ⟨F1,h3,h4,h5⟩:=h
 obtain ⟨F2,g3,g4,g5⟩:=h2 F1 h3
 refine ⟨F2,g3,fun i hi=> ?_,h5.trans g5 h4⟩
 rcases g4 i hi with h|h
 ·exact h4 i h
 ·exact .inr (Nat.le_trans h5.size h)
theorem JGTo.own {w0:World} (h:JGTo y w1 F j s n w') (hf:Fr No w0 w1) (hN:∀i,F i→w0.heap.size≤i):∃F',JG y w' F' j s n∧(∀i,F' i→w0.heap.size≤i)∧Fr No w0 w' :=by
 obtain ⟨F',g1,g2,g3⟩:=h
 exact ⟨F',g1,fun i hi=>(g2 i hi).elim (fun h=>hN i h) (fun h=>Nat.le_trans hf.size h),hf.transNew g3 hN⟩
theorem JGTo.of {d:Nat} {xs:List UInt8} {k:Nat} {rs:List (List UInt8)} (h:JTo w F j d xs k s w') (hg:Good xs s rs) (hl:s.log.length≤4096) (hn:xs.length≤n) (hy:y=true→k=xs.length):JGTo y w F j s n w' :=by
 obtain ⟨F',g1,g2,g3⟩:=h
 exact ⟨F',⟨d,xs,k,rs,g1,hg,hl,hn,hy⟩,g2,g3⟩
theorem setTermS_log (s:Js) (t v:Int):(setTermS s t v).log=s.log:=by unfold setTermS;split<;>rfl
theorem recT_len {t v:Int} (h:setTermX s t v=0):(recT t v).length≤30:=by
 have hb:=setX_bd h
 have:=intsF_len [1,t,v] (by
  intro x hx
  simp only [List.mem_cons,List.not_mem_nil,or_false] at hx
  rcases hx with rfl|rfl|rfl<;>omega)
 simpa [recT] using this
theorem recE_len {t:Int} {e:En} (he:e.ok) (h:addX s t e=0):(recE t e).length≤110:=by
 have hb:=addX_bd h
 have l2:=intsF_len [2,t] (by
  intro x hx
  simp only [List.mem_cons,List.not_mem_nil,or_false] at hx
  rcases hx with rfl|rfl<;>omega)
 have l3:=enB_len e he
 unfold recE
 rw [List.length_append]
 simp at l2
 omega
end
section
variable {y:Bool} {w w' w1:World} {F G:Nat→Prop} {j:Nat} {s:Js} {n:Nat}
theorem g_new (w:World):
  Calls Try.prog 9 #[] w fun e w' =>∃j F,e= .returned (.pointer (some ⟨j,0,none⟩))∧JG true w' F j jsNew 0∧(∀i,F i→w.heap.size≤i)∧Fr No w w' :=by
 refine (j_new w).mono ?_
 rintro e w' ⟨j,d,F,h1,h2,h3,h4⟩
 exact ⟨j,F,h1,⟨d,[],0,[],h2,Good.new,by decide,Nat.le_refl _,fun _=>rfl⟩,h3,h4⟩
theorem g_term (h:JG y w F j s n):Calls Try.prog 27 #[.pointer (some ⟨j,0,none⟩)] w fun e w' =>e= .returned (.int .i64 s.term)∧w=w' :=by
 obtain ⟨d,xs,k,rs,h1,h2⟩:=h
 exact j_term h1
theorem g_vote (h:JG y w F j s n):Calls Try.prog 28 #[.pointer (some ⟨j,0,none⟩)] w fun e w' =>e= .returned (.int .i64 s.vote)∧w=w' :=by
 obtain ⟨d,xs,k,rs,h1,h2⟩:=h
 exact j_vote h1
theorem g_len (h:JG y w F j s n):Calls Try.prog 29 #[.pointer (some ⟨j,0,none⟩)] w fun e w' =>e= .returned (.int .i64 (s.log.length:Int))∧w=w' :=by
 obtain ⟨d,xs,k,rs,h1,h2⟩:=h
 exact j_len h1
theorem g_at (h:JG y w F j s n) (i:Int):Calls Try.prog 26 #[.pointer (some ⟨j,0,none⟩),.int .i64 i] w fun e w' =>e= .returned (.tuple #[(atJ s.log i).1.v,.bool (atJ s.log i).2])∧Fr No w w' :=by
 obtain ⟨d,xs,k,rs,h1,h2⟩:=h
 exact j_at h1 i
theorem g_termAt (h:JG y w F j s n) (i:Int):Calls Try.prog 42 #[.pointer (some ⟨j,0,none⟩),.int .i64 i] w fun e w' =>e= .returned (.int .i64 (termAt s.log i))∧Fr No w w' :=by
 obtain ⟨d,xs,k,rs,h1,h2⟩:=h
 exact j_termAt h1 i
theorem g_SetTerm (h:JG y w F j s n) (t v:Int) (hsz:n+200≤140737488355328):
  Calls Try.prog 41 #[.pointer (some ⟨j,0,none⟩),.int .i64 t,.int .i64 v] w fun e w' =>e= .returned (.int .i64 (setTermX s t v))∧JGTo false w F j (setTermS s t v) (n+48) w' :=by
 obtain ⟨d,xs,k,rs,h1,h2,h3,h4,h5⟩:=h
 refine (j_SetTerm h1 t v (by omega)).mono ?_
 rintro e w' ⟨rfl,j2⟩
 refine ⟨rfl,?_⟩
 by_cases h0:setTermX s t v=0
 ·rw [if_pos h0] at j2
  have hr:=recT_len h0
  have hp:=putN_lenP 8 (recT t v) (by omega)
  exact JGTo.of j2 (h2.snoc (recT t v) (by omega) (replay_term s t v h0)) (by rw [setTermS_log];exact h3) (by rw [List.length_append];omega) (fun h=>by cases h)
 ·rw [if_neg h0,setTermS_no h0] at j2
  rw [setTermS_no h0]
  exact JGTo.of j2 h2 h3 (by omega) (fun h=>by cases h)
theorem g_Append (h:JG y w F j s n) (t:Int) (e:En) (he:e.ok) (hsz:n+200≤140737488355328):
  Calls Try.prog 37 #[.pointer (some ⟨j,0,none⟩),.int .i64 t,e.v] w fun r w' =>r= .returned (.int .i64 (addX s t e))∧JGTo false w F j (addS s t e) (n+128) w' :=by
 obtain ⟨d,xs,k,rs,h1,h2,h3,h4,h5⟩:=h
 refine (j_Append h1 h3 t e he (by omega)).mono ?_
 rintro r w' ⟨rfl,j2⟩
 refine ⟨rfl,?_⟩
 by_cases h0:addX s t e=0
 ·rw [if_pos h0] at j2
  have hr:=recE_len he h0
  have hp:=putN_lenP 8 (recE t e) (by omega)
  have hb:=addX_bd h0
  exact JGTo.of j2 (h2.snoc (recE t e) (by omega) (replay_entry s t e he h0)) (by unfold addS;rw [if_pos h0];simp only [List.length_append,List.length_singleton];omega) (by rw [List.length_append];omega) (fun h=>by cases h)
 ·rw [if_neg h0,addS_no h0] at j2
  rw [addS_no h0]
  exact JGTo.of j2 h2 h3 (by omega) (fun h=>by cases h)
theorem g_sync (h:JG y w F j s n):
  Calls Try.prog 38 #[.pointer (some ⟨j,0,none⟩)] w fun e w' =>e= .returned (.tuple #[])∧JGTo true w F j s n w' :=by
 obtain ⟨d,xs,k,rs,h1,h2,h3,h4,h5⟩:=h
 refine (j_sync h1).mono ?_
 rintro r w' ⟨rfl,j2⟩
 exact ⟨rfl,JGTo.of j2 h2 h3 h4 (fun _=>rfl)⟩
end
end
section
abbrev TRep:TypeId:=37
abbrev TMs:TypeId:=64
abbrev repCells (j:Nat) (r:Rs) (bits:Int) (nx mt:Nat→Int):Array Value:=
 #[.pointer (some ⟨j,0,none⟩),.int .i64 r.id,.int .i64 r.n,.int .i64 r.role,.int .i64 r.commit,.int .i64 bits,.int .i64 (nx 0),.int .i64 (nx 1),.int .i64 (nx 2),.int .i64 (nx 3),.int .i64 (nx 4),.int .i64 (mt 0),.int .i64 (mt 1),.int .i64 (mt 2),.int .i64 (mt 3),.int .i64 (mt 4)]
def Sees (r:Rs) (bits:Int) (nx mt:Nat→Int):Prop:=(r.role=2→bits=r.votes)∧(r.role=3→∀i,i<r.n→nx i=r.next i∧mt i=r.mtch i)
def RAt (w:World) (F:Nat→Prop) (p:Nat) (r:Rs) (n:Nat):Prop:=
 ∃j Fj bits nx mt,Blk w p TRep (repCells j r bits nx mt)∧F p∧JG true w Fj j r.js n∧(∀i,Fj i→F i)∧¬Fj p∧(∀i,F i→i<w.heap.size)∧Sees r bits nx mt∧RsOk r
def RTo (w:World) (F:Nat→Prop) (p:Nat) (r:Rs) (n:Nat) (w' :World):Prop:=
 ∃F',RAt w' F' p r n∧(∀i,F' i→F i∨w.heap.size≤i)∧Fr F w w'
section
variable {w w' w1:World} {F G:Nat→Prop} {p:Nat} {r r' :Rs} {n m:Nat}
theorem RAt.fr (h:RAt w F p r n) (hf:Fr G w w') (hd:∀i,F i→¬G i):RAt w' F p r n:=by
 obtain ⟨j,Fj,bits,nx,mt,h1,h2,h3,h4,h5,h6,h7⟩:=h
 exact ⟨j,Fj,bits,nx,mt,h1.fr hf (hd p h2),h2,h3.fr hf fun i hi=>hd i (h4 i hi),h4,h5,fun i hi=>Nat.lt_of_lt_of_le (h6 i hi) hf.size,h7⟩
theorem RAt.frNo (h:RAt w F p r n) (hf:Fr No w w'):RAt w' F p r n:=h.fr hf fun _ _ hi=>hi
theorem RAt.lt (h:RAt w F p r n):∀i,F i→i<w.heap.size:=by
 obtain ⟨j,Fj,bits,nx,mt,h1,h2,h3,h4,h5,h6,h7⟩:=h
 exact h6
theorem RAt.ok (h:RAt w F p r n):RsOk r:=by
 obtain ⟨j,Fj,bits,nx,mt,h1,h2,h3,h4,h5,h6,h7,h8⟩:=h
 exact h8
theorem RAt.more (h:RAt w F p r n) (hn:n≤m):RAt w F p r m:=by
 obtain ⟨j,Fj,bits,nx,mt,h1,h2,h3,h4⟩:=h
 exact ⟨j,Fj,bits,nx,mt,h1,h2,h3.more hn,h4⟩
theorem RAt.self (h:RAt w F p r n):RTo w F p r n w:=⟨F,h,fun _ hi=> .inl hi,Fr.refl _ _⟩
theorem RAt.still (h:RAt w F p r n) (hf:Fr No w w'):RTo w F p r n w' :=⟨F,h.frNo hf,fun _ hi=> .inl hi,hf.mono fun _ hi=>hi.elim⟩
theorem RTo.trans (h:RTo w F p r n w1) (h2:∀F',RAt w1 F' p r n→RTo w1 F' p r' m w'):RTo w F p r' m w' :=by
 obtain ⟨F1,h3,h4,h5⟩:=h
 obtain ⟨F2,g3,g4,g5⟩:=h2 F1 h3
 refine ⟨F2,g3,fun i hi=> ?_,h5.trans g5 h4⟩
 rcases g4 i hi with h|h
 ·exact h4 i h
 ·exact .inr (Nat.le_trans h5.size h)
theorem RTo.after (hf:Fr No w w1) (h:RTo w1 F p r n w'):RTo w F p r n w' :=by
 obtain ⟨F',h1,h2,h3⟩:=h
 exact ⟨F',h1,fun i hi=>(h2 i hi).imp id (Nat.le_trans hf.size),(hf.mono (G:=F) fun _ hi=>hi.elim).trans h3 fun i hi=> .inl hi⟩
theorem RTo.more (h:RTo w F p r n w') (hn:n≤m):RTo w F p r m w' :=by
 obtain ⟨F',h1,h2⟩:=h
 exact ⟨F',h1.more hn,h2⟩
theorem RTo.own {w0:World} (h:RTo w1 F p r n w') (hf:Fr No w0 w1) (hN:∀i,F i→w0.heap.size≤i):∃F',RAt w' F' p r n∧(∀i,F' i→w0.heap.size≤i)∧Fr No w0 w' :=by
 obtain ⟨F',g1,g2,g3⟩:=h
 exact ⟨F',g1,fun i hi=>(g2 i hi).elim (fun h=>hN i h) (fun h=>Nat.le_trans hf.size h),hf.transNew g3 hN⟩
theorem RAt.jrn {j:Nat} {Fj:Nat→Prop} {bits:Int} {nx mt:Nat→Int} {s' :Js} (h1:Blk w p TRep (repCells j r bits nx mt)) (h2:F p) (h4:∀i,Fj i→F i) (h5:¬Fj p) (h6:∀i,F i→i<w.heap.size) (h7:Sees r bits nx mt)
  (hj:JGTo true w Fj j s' m w') (hr:RsOk {r with js:=s'}):RTo w F p {r with js:=s'} m w' :=by
 obtain ⟨Fj',g1,g2,g3⟩:=hj
 have hpl:=h6 p h2
 refine ⟨fun i=>F i∨(w.heap.size≤i∧i<w'.heap.size),⟨j,Fj',bits,nx,mt,h1.fr g3 h5,.inl h2,g1,fun i hi=> ?_,fun hi=> ?_,fun i hi=> ?_,h7,hr⟩,fun i hi=> ?_,g3.mono h4⟩
 ·rcases g2 i hi with h|h
  ·exact .inl (h4 i h)
  ·exact .inr ⟨h,g1.lt i hi⟩
 ·rcases g2 p hi with h|h
  ·exact h5 h
  ·omega
 ·rcases hi with h|h
  ·exact Nat.lt_of_lt_of_le (h6 i h) g3.size
  ·exact h.2
 ·rcases hi with h|h
  ·exact .inl h
  ·exact .inr h.1
theorem RAt.cells {j:Nat} {Fj:Nat→Prop} {bits' :Int} {nx' mt' :Nat→Int} (h2:F p) (h3:JG true w Fj j r.js n) (h4:∀i,Fj i→F i) (h5:¬Fj p) (h6:∀i,F i→i<w.heap.size)
  (hf:Fr (fun i=>i=p) w w') (hb:Blk w' p TRep (repCells j r' bits' nx' mt')) (hjs:r'.js=r.js) (h7:Sees r' bits' nx' mt') (hr:RsOk r'):RTo w F p r' n w' :=by
 refine ⟨F,⟨j,Fj,bits',nx',mt',hb,h2,?_,h4,h5,fun i hi=>Nat.lt_of_lt_of_le (h6 i hi) hf.size,h7,hr⟩,fun i hi=> .inl hi,hf.mono fun i hi=>hi▸h2⟩
 rw [hjs]
 exact h3.fr hf fun i hi he=>h5 (he▸hi)
end
abbrev Ms.v (m:Ms) (v:Value):Value:= .agg #[.int .i64 m.kind,.int .i64 m.from_,.int .i64 m.to_,.int .i64 m.term,.int .i64 m.index,.int .i64 m.prev,.int .i64 m.commit,.bool m.ok,v]
def Ms.cells (m:Ms) (v:Value):List Value:=[.int .i64 m.kind,.int .i64 m.from_,.int .i64 m.to_,.int .i64 m.term,.int .i64 m.index,.int .i64 m.prev,.int .i64 m.commit,.bool m.ok,v]
def Ent (w:World) (G:Nat→Prop) (v:Value) (es:List Lg):Prop:=
 ∃A c,v= .slice A es.length c∧(A=none→es.length=0)∧es.length≤c∧c≤maxLen∧(es=[]∨∃b off,A=some ⟨b,off,none⟩∧G b∧b<w.heap.size∧∀k,(h:k<(logV es).length)→w.cell? ⟨b,off+k,none⟩=some (logV es)[k])
theorem Ent.fr {w w' :World} {F G:Nat→Prop} {v:Value} {es:List Lg} (h:Ent w G v es) (hf:Fr F w w') (hd:∀i,G i→¬F i):Ent w' G v es:=by
 obtain ⟨A,c,h1,h2,h3,h4,h5⟩:=h
 refine ⟨A,c,h1,h2,h3,h4,h5.imp id ?_⟩
 rintro ⟨b,off,e1,e2,e3,e4⟩
 exact ⟨b,off,e1,e2,Nat.lt_of_lt_of_le e3 hf.size,fun k hk=>(hf.cell (p:=⟨b,off+k,none⟩) e3 (hd b e2)).trans (e4 k hk)⟩
theorem Ent.frNo {w w' :World} {G:Nat→Prop} {v:Value} {es:List Lg} (h:Ent w G v es) (hf:Fr No w w'):Ent w' G v es:=h.fr hf fun _ _ hi=>hi
theorem Ent.mono {w:World} {G H:Nat→Prop} {v:Value} {es:List Lg} (h:Ent w G v es) (hGH:∀i,G i→H i):Ent w H v es:=by
 obtain ⟨A,c,h1,h2,h3,h4,h5⟩:=h
 exact ⟨A,c,h1,h2,h3,h4,h5.imp id fun ⟨b,off,e1,e2,e3⟩=>⟨b,off,e1,hGH b e2,e3⟩⟩
theorem Ent.of_own {w:World} {G:Nat→Prop} {v:Value} {es:List Lg} (h:OwnN w G TLg 10 v es.length (logV es)):Ent w G v es:=by
 obtain ⟨A,c,rfl,hn⟩:=h.form
 obtain ⟨h1,h2⟩:=h.cap
 refine ⟨A,c,rfl,hn,h1,h2,?_⟩
 rcases Nat.eq_zero_or_pos es.length with h0|h0
 ·exact .inl (List.eq_nil_of_length_eq_zero h0)
 ·obtain ⟨b,rfl,h3,h4,h5⟩:=h.head h0
  exact .inr ⟨b,0,rfl,h4,h3,fun k hk=>by rw [Nat.zero_add,h5 k hk,List.getElem?_eq_getElem hk]⟩
theorem Ent.nil (w:World) (G:Nat→Prop):Ent w G (.slice none 0 0) []:=⟨none,0,rfl,fun _=>rfl,Nat.le_refl _,by unfold maxLen;omega,.inl rfl⟩
theorem Ent.rd {w:World} {G:Nat→Prop} {A:Option Addr} {n c:Nat} {es:List Lg} (h:Ent w G (.slice A n c) es):n=es.length∧(A=none→n=0)∧n≤c∧c≤maxLen∧Rd w w.heap.size A (logV es):=by
 obtain ⟨A',c',h1,h2,h3,h4,h5⟩:=h
 injection h1 with e1 e2 e3
 subst e1 e2 e3
 refine ⟨rfl,h2,h3,h4,?_⟩
 rcases h5 with rfl|⟨b,off,e1,e2,e3,e4⟩
 ·exact .inl rfl
 ·exact .inr ⟨b,off,e1,e3,e4⟩
def msV:List Ms→List Value→List Value
 |m :: ms,v :: vs=>m.cells v++msV ms vs
 |_,_=>[]
theorem msV_len:∀(ms:List Ms) (vs:List Value),vs.length=ms.length→(msV ms vs).length=ms.length*9:=by
 intro ms
 induction ms with
 |nil=>intro vs _;cases vs<;>rfl
 |cons m ms ih=>
  intro vs h
  rcases vs with _|⟨v,vs⟩
  ·simp at h
  ·simp only [msV,List.length_append,List.length_cons]
   rw [ih vs (by simpa using h),Nat.succ_mul]
   simp [Ms.cells]
   omega
theorem msV_snoc:∀(ms:List Ms) (vs:List Value) (m:Ms) (v:Value),vs.length=ms.length→msV (ms++[m]) (vs++[v])=msV ms vs++m.cells v:=by
 intro ms
 induction ms with
 |nil=>
  intro vs m v h
  obtain rfl:vs=[]:=List.eq_nil_of_length_eq_zero (by simpa using h)
  simp [msV]
 |cons x ms ih=>
  intro vs m v h
  rcases vs with _|⟨y,vs⟩
  ·simp at h
  ·simp only [List.cons_append,msV,List.append_assoc]
   rw [ih vs m v (by simpa using h)]
structure MsIn (w:World) (Gs Ge:Nat→Prop) (v:Value) (ms:List Ms) (vs:List Value):Prop where
 own:OwnN w Gs TMs 9 v ms.length (msV ms vs)
 len:vs.length=ms.length
 each:∀(i:Nat) (m:Ms) (x:Value),ms[i]? =some m→vs[i]? =some x→Ent w Ge x m.es
 apart:∀i,Gs i→¬Ge i
 ltS:∀i,Gs i→i<w.heap.size
 ltE:∀i,Ge i→i<w.heap.size
def MsgsAt (w:World) (G:Nat→Prop) (v:Value) (ms:List Ms):Prop:=∃Gs Ge vs,MsIn w Gs Ge v ms vs∧(∀i,Gs i→G i)∧∀i,Ge i→G i
theorem MsIn.fr {w w' :World} {F Gs Ge:Nat→Prop} {v:Value} {ms:List Ms} {vs:List Value} (h:MsIn w Gs Ge v ms vs) (hf:Fr F w w') (hs:∀i,Gs i→¬F i) (he:∀i,Ge i→¬F i):MsIn w' Gs Ge v ms vs:=
 ⟨h.own.fr' hf fun g hg=>hs g (h.own.2 g hg),h.len,fun i m x hm hx=>(h.each i m x hm hx).fr hf he,h.apart,fun i hi=>Nat.lt_of_lt_of_le (h.ltS i hi) hf.size,fun i hi=>Nat.lt_of_lt_of_le (h.ltE i hi) hf.size⟩
theorem MsIn.frNo {w w' :World} {Gs Ge:Nat→Prop} {v:Value} {ms:List Ms} {vs:List Value} (h:MsIn w Gs Ge v ms vs) (hf:Fr No w w'):MsIn w' Gs Ge v ms vs:=h.fr hf (fun _ _ hi=>hi) (fun _ _ hi=>hi)
theorem MsgsAt.fr {w w' :World} {F G:Nat→Prop} {v:Value} {ms:List Ms} (h:MsgsAt w G v ms) (hf:Fr F w w') (hd:∀i,G i→¬F i):MsgsAt w' G v ms:=by
 obtain ⟨Gs,Ge,vs,h1,h2,h3⟩:=h
 exact ⟨Gs,Ge,vs,h1.fr hf (fun i hi=>hd i (h2 i hi)) (fun i hi=>hd i (h3 i hi)),h2,h3⟩
theorem MsgsAt.frNo {w w' :World} {G:Nat→Prop} {v:Value} {ms:List Ms} (h:MsgsAt w G v ms) (hf:Fr No w w'):MsgsAt w' G v ms:=h.fr hf fun _ _ hi=>hi
theorem MsgsAt.nil (w:World) (G:Nat→Prop):MsgsAt w G (.slice none 0 0) []:=
 ⟨No,No,[],⟨OwnN.nil _ _ _ _,rfl,fun i m x hm=>by simp at hm,fun _ h=>h.elim,fun _ h=>h.elim,fun _ h=>h.elim⟩,fun _ h=>h.elim,fun _ h=>h.elim⟩
theorem MsgsAt.mono {w:World} {G H:Nat→Prop} {v:Value} {ms:List Ms} (h:MsgsAt w G v ms) (hGH:∀i,G i→H i):MsgsAt w H v ms:=by
 obtain ⟨Gs,Ge,vs,h1,h2,h3⟩:=h
 exact ⟨Gs,Ge,vs,h1,fun i hi=>hGH i (h2 i hi),fun i hi=>hGH i (h3 i hi)⟩
theorem Ent.lt {w:World} {G:Nat→Prop} {v:Value} {es:List Lg} (h:Ent w G v es):Ent w (fun i=>G i∧i<w.heap.size) v es:=by
 obtain ⟨A,c,h1,h2,h3,h4,h5⟩:=h
 exact ⟨A,c,h1,h2,h3,h4,h5.imp id fun ⟨b,off,e1,e2,e3,e4⟩=>⟨b,off,e1,⟨e2,e3⟩,e3,e4⟩⟩
theorem ms_one (m:Ms) {w:World} {G:Nat→Prop} {x:Value} (hx:Ent w G x m.es):∀u∈m.cells x,u.oneCell' =true:=by
 obtain ⟨A,c,rfl,-⟩:=hx
 intro u hu
 simp only [Ms.cells,List.mem_cons,List.not_mem_nil,or_false] at hu
 rcases hu with rfl|rfl|rfl|rfl|rfl|rfl|rfl|rfl|rfl<;>rfl
theorem MsIn.snoc {W W2 W3:World} {G Gs Ge:Nat→Prop} {v v' x:Value} {ms:List Ms} {vs:List Value} {m:Ms} (h:MsIn W Gs Ge v ms vs) (hG:∀i,W.heap.size≤i→G i) (hs:∀i,Gs i→G i) (he:∀i,Ge i→G i) (hf:Fr No W W2) (hx:Ent W2 (fun b=>W.heap.size≤b) x m.es)
  (ha:AppendedN W2 0 TMs 9 v ms.length (msV ms vs) (m.cells x) 1 v' W3):MsgsAt W3 G v' (ms++[m])∧Fr (fun i=>Gs i) W2 W3:=by
 obtain ⟨o1,f1⟩:=(h.own.frNo hf).appended ha
 have hsz:=hf.size
 have hsz2:=f1.size
 refine ⟨⟨fun i=>Gs i∨(i=W2.heap.size∧i<W3.heap.size),fun i=>Ge i∨(W.heap.size≤i∧i<W2.heap.size),vs++[x],⟨?_,by simp [h.len],fun i m' x' hm hx' => ?_,fun i hi hh=> ?_,fun i hi=> ?_,fun i hi=> ?_⟩,fun i hi=> ?_,fun i hi=> ?_⟩,f1⟩
 ·rw [msV_snoc _ _ _ _ h.len,List.length_append,List.length_singleton]
  exact o1
 ·rcases Nat.lt_or_ge i ms.length with hi|hi
  ·rw [List.getElem?_append_left hi] at hm
   rw [List.getElem?_append_left (by rw [h.len];exact hi)] at hx'
   exact (((h.each i m' x' hm hx').frNo hf).fr f1 fun k hk hh=>h.apart k hh hk).mono fun k hk=> .inl hk
  ·rw [List.getElem?_append_right hi] at hm
   rw [List.getElem?_append_right (by rw [h.len];exact hi)] at hx'
   have hi0:i-ms.length=0:=by
    have:=(List.getElem?_eq_some_iff.1 hm).1
    simp at this;omega
   rw [hi0] at hm
   rw [h.len,hi0] at hx'
   simp at hm hx'
   subst hm hx'
   exact (hx.lt.fr f1 fun k hk hh=>by have:=h.ltS k hh;have:=hk.1;omega).mono fun k hk=> .inr hk
 ·rcases hi with hi|hi
  ·rcases hh with hh|hh
   ·exact h.apart i hi hh
   ·have:=h.ltS i hi;omega
  ·rcases hh with hh|hh
   ·have:=h.ltE i hh;omega
   ·omega
 ·rcases hi with hi|hi
  ·have:=h.ltS i hi;omega
  ·exact hi.2
 ·rcases hi with hi|hi
  ·have:=h.ltE i hi;omega
  ·omega
 ·rcases hi with hi|hi
  ·exact hs i hi
  ·exact hG i (by omega)
 ·rcases hi with hi|hi
  ·exact he i hi
  ·exact hG i hi.1
end
section
theorem cell_lt {w:World} {b o:Nat} {v:Value} (h:w.cell? ⟨b,o,none⟩=some v):b<w.heap.size:=by
 unfold World.cell? at h
 rcases Nat.lt_or_ge b w.heap.size with hlt|hge
 ·exact hlt
 ·simp [Array.getElem?_eq_none hge] at h
def RJ (w:World) (p:Nat) (s:Js) (n:Nat):Prop:=∃j Fj,w.cell? ⟨p,0,none⟩=some (.pointer (some ⟨j,0,none⟩))∧JG true w Fj j s n∧¬Fj p
section
variable {w w' :World} {F:Nat→Prop} {p:Nat} {r:Rs} {s:Js} {n:Nat}
theorem RAt.rj (h:RAt w F p r n):RJ w p r.js n:=by
 obtain ⟨j,Fj,bits,nx,mt,h1,h2,h3,h4,h5,h6,h7⟩:=h
 exact ⟨j,Fj,h1.cell 0,h3,h5⟩
theorem RJ.frNo (h:RJ w p s n) (hf:Fr No w w'):RJ w' p s n:=by
 obtain ⟨j,Fj,h1,h2,h3⟩:=h
 exact ⟨j,Fj,(hf.cell (p:=⟨p,0,none⟩) (cell_lt h1) (fun h=>h)).trans h1,h2.frNo hf,h3⟩
theorem p_role (h:RAt w F p r n):Calls Try.prog 13 #[.pointer (some ⟨p,0,none⟩)] w fun e w' =>e= .returned (.int .i64 r.role)∧w=w' :=by
 obtain ⟨j,Fj,bits,nx,mt,h1,-⟩:=h
 have c3:w.cell? ⟨p,3,none⟩=some (.int .i64 r.role):=h1.cell 3
 clear h1
 go_enter Try.func13,Try.ntmps13
 go_wp2_with fail
 go_ret
 exact ⟨rfl,rfl⟩
theorem p_commit (h:RAt w F p r n):Calls Try.prog 16 #[.pointer (some ⟨p,0,none⟩)] w fun e w' =>e= .returned (.int .i64 (r.commit:Int))∧w=w' :=by
 obtain ⟨j,Fj,bits,nx,mt,h1,-⟩:=h
 have c3:w.cell? ⟨p,4,none⟩=some (.int .i64 (r.commit:Int)):=h1.cell 4
 clear h1
 go_enter Try.func16,Try.ntmps16
 go_wp2_with fail
 go_ret
 exact ⟨rfl,rfl⟩
theorem p_term (h:RJ w p s n):Calls Try.prog 14 #[.pointer (some ⟨p,0,none⟩)] w fun e w' =>e= .returned (.int .i64 s.term)∧w=w' :=by
 obtain ⟨j,Fj,c0,h3,-⟩:=h
 have hg:=g_term h3
 clear h3
 have HG:=Lib.hid hg
 clear hg
 go_enter Try.func14,Try.ntmps14
 go_wp2_with fail
 refine HG.out.mono ?_
 rintro e w' ⟨rfl,rfl⟩
 go_wp2_with fail
 go_ret
 exact ⟨rfl,rfl⟩
theorem p_vote (h:RJ w p s n):Calls Try.prog 15 #[.pointer (some ⟨p,0,none⟩)] w fun e w' =>e= .returned (.int .i64 s.vote)∧w=w' :=by
 obtain ⟨j,Fj,c0,h3,-⟩:=h
 have hg:=g_vote h3
 clear h3
 have HG:=Lib.hid hg
 clear hg
 go_enter Try.func15,Try.ntmps15
 go_wp2_with fail
 refine HG.out.mono ?_
 rintro e w' ⟨rfl,rfl⟩
 go_wp2_with fail
 go_ret
 exact ⟨rfl,rfl⟩
theorem p_len (h:RJ w p s n):Calls Try.prog 17 #[.pointer (some ⟨p,0,none⟩)] w fun e w' =>e= .returned (.int .i64 (s.log.length:Int))∧w=w' :=by
 obtain ⟨j,Fj,c0,h3,-⟩:=h
 have hg:=g_len h3
 clear h3
 have HG:=Lib.hid hg
 clear hg
 go_enter Try.func17,Try.ntmps17
 go_wp2_with fail
 refine HG.out.mono ?_
 rintro e w' ⟨rfl,rfl⟩
 go_wp2_with fail
 go_ret
 exact ⟨rfl,rfl⟩
theorem lg_cells {w:World} {g:Nat} {x:Lg} (hb:Blk w g TLg x.cells.toArray):w.cell? ⟨g,0,none⟩=some (.int .i64 x.term)∧w.cell? ⟨g,1,none⟩=some (.int .i64 x.e.kind)∧w.cell? ⟨g,2,none⟩=some (.int .i64 x.e.tick)∧w.cell? ⟨g,3,none⟩=some (.int .i64 x.e.tenant)∧w.cell? ⟨g,4,none⟩=some (.int .i64 x.e.cell)∧w.cell? ⟨g,5,none⟩=some (.int .i64 x.e.other)∧w.cell? ⟨g,6,none⟩=some (.int .i64 x.e.epoch)∧w.cell? ⟨g,7,none⟩=some (.int .i64 x.e.from_)∧w.cell? ⟨g,8,none⟩=some (.int .i64 x.e.until_)∧w.cell? ⟨g,9,none⟩=some (.int .i64 x.e.n):=
 ⟨hb.cell 0,hb.cell 1,hb.cell 2,hb.cell 3,hb.cell 4,hb.cell 5,hb.cell 6,hb.cell 7,hb.cell 8,hb.cell 9⟩
theorem at_results (x:Lg) (g:Nat) (y:Value) (ts:Array Value) (W:World) (hb:Blk W g TLg x.cells.toArray) (h2:ts[4]?.getD undef= .pointer (some ⟨g,0,none⟩)) (h3:ts[5]?.getD undef=y):
  (results Try.f11 ts).run Try.prog W= .ok (.tuple #[x.v,y]) W:=by
 obtain ⟨c0,c1,c2,c3,c4,c5,c6,c7,c8,c9⟩:=lg_cells hb
 clear hb
 simp [results,Try.results11,go_sem,h2,h3,Lg.v,c0,c1,c2,c3,c4,c5,c6,c7,c8,c9]
theorem lg_fill {Z:World} {q:Nat} (x:Lg) (h:Blk Z q TLg #[.int .i64 0,.int .i64 0,.int .i64 0,.int .i64 0,.int .i64 0,.int .i64 0,.int .i64 0,.int .i64 0,.int .i64 0,.int .i64 0]):Blk (World.setCell (World.setCell (World.setCell (World.setCell (World.setCell (World.setCell (World.setCell (World.setCell (World.setCell (World.setCell Z ⟨q,0,none⟩ (.int .i64 x.term)) ⟨q,1,none⟩ (.int .i64 x.e.kind)) ⟨q,2,none⟩ (.int .i64 x.e.tick)) ⟨q,3,none⟩ (.int .i64 x.e.tenant)) ⟨q,4,none⟩ (.int .i64 x.e.cell)) ⟨q,5,none⟩ (.int .i64 x.e.other)) ⟨q,6,none⟩ (.int .i64 x.e.epoch)) ⟨q,7,none⟩ (.int .i64 x.e.from_)) ⟨q,8,none⟩ (.int .i64 x.e.until_)) ⟨q,9,none⟩ (.int .i64 x.e.n)) q TLg #[.int .i64 x.term,.int .i64 x.e.kind,.int .i64 x.e.tick,.int .i64 x.e.tenant,.int .i64 x.e.cell,.int .i64 x.e.other,.int .i64 x.e.epoch,.int .i64 x.e.from_,.int .i64 x.e.until_,.int .i64 x.e.n]:=by
 refine Blk.conv (Blk.set_ (Blk.set_ (Blk.set_ (Blk.set_ (Blk.set_ (Blk.set_ (Blk.set_ (Blk.set_ (Blk.set_ (Blk.set_ h 0 (.int .i64 x.term)) 1 (.int .i64 x.e.kind)) 2 (.int .i64 x.e.tick)) 3 (.int .i64 x.e.tenant)) 4 (.int .i64 x.e.cell)) 5 (.int .i64 x.e.other)) 6 (.int .i64 x.e.epoch)) 7 (.int .i64 x.e.from_)) 8 (.int .i64 x.e.until_)) 9 (.int .i64 x.e.n)) ?_
 simp only [List.setIfInBounds_toArray,List.set_cons_zero,List.set_cons_succ]
theorem lg_fill_fr {w Z:World} {q:Nat} (x:Lg) (h:Fr No w Z) (hq:w.heap.size≤q):Fr No w (World.setCell (World.setCell (World.setCell (World.setCell (World.setCell (World.setCell (World.setCell (World.setCell (World.setCell (World.setCell Z ⟨q,0,none⟩ (.int .i64 x.term)) ⟨q,1,none⟩ (.int .i64 x.e.kind)) ⟨q,2,none⟩ (.int .i64 x.e.tick)) ⟨q,3,none⟩ (.int .i64 x.e.tenant)) ⟨q,4,none⟩ (.int .i64 x.e.cell)) ⟨q,5,none⟩ (.int .i64 x.e.other)) ⟨q,6,none⟩ (.int .i64 x.e.epoch)) ⟨q,7,none⟩ (.int .i64 x.e.from_)) ⟨q,8,none⟩ (.int .i64 x.e.until_)) ⟨q,9,none⟩ (.int .i64 x.e.n)):=Fr.setCell (Fr.setCell (Fr.setCell (Fr.setCell (Fr.setCell (Fr.setCell (Fr.setCell (Fr.setCell (Fr.setCell (Fr.setCell h (p:=⟨q,0,none⟩) (.inr hq) (.int .i64 x.term)) (p:=⟨q,1,none⟩) (.inr hq) (.int .i64 x.e.kind)) (p:=⟨q,2,none⟩) (.inr hq) (.int .i64 x.e.tick)) (p:=⟨q,3,none⟩) (.inr hq) (.int .i64 x.e.tenant)) (p:=⟨q,4,none⟩) (.inr hq) (.int .i64 x.e.cell)) (p:=⟨q,5,none⟩) (.inr hq) (.int .i64 x.e.other)) (p:=⟨q,6,none⟩) (.inr hq) (.int .i64 x.e.epoch)) (p:=⟨q,7,none⟩) (.inr hq) (.int .i64 x.e.from_)) (p:=⟨q,8,none⟩) (.inr hq) (.int .i64 x.e.until_)) (p:=⟨q,9,none⟩) (.inr hq) (.int .i64 x.e.n)
set_option maxHeartbeats 1000000 in
theorem p_at (h:RJ w p s n) (i:Int):Calls Try.prog 11 #[.pointer (some ⟨p,0,none⟩),.int .i64 i] w fun e w' =>e= .returned (.tuple #[(atJ s.log i).1.v,.bool (atJ s.log i).2])∧Fr No w w' :=by
 have c0:=fun W (hW:Fr No w W)=>h.frNo hW
 obtain ⟨j,Fj,c00,h3,-⟩:=c0 _ (fr_alloc w (.cells #[.int .i64 0,.int .i64 0,.int .i64 0,.int .i64 0,.int .i64 0,.int .i64 0,.int .i64 0,.int .i64 0,.int .i64 0,.int .i64 0] TLg))
 have hg:=g_at h3 i
 clear h3 c0 h
 generalize (atJ s.log i).1=x at*
 generalize (atJ s.log i).2=b at*
 obtain ⟨t,⟨kd,tick,te,ce,ot,ep,fr,un,nn⟩⟩:=x
 unfold Lg.v at hg ⊢
 simp only at hg ⊢
 have HG:=Lib.hid hg
 clear hg
 go_enter Try.func11,Try.ntmps11
 go_wp2_with fail
 refine HG.out.mono ?_
 rintro e w1 ⟨rfl,f1⟩
 have hb:=(Blk.new w TLg #[.int .i64 0,.int .i64 0,.int .i64 0,.int .i64 0,.int .i64 0,.int .i64 0,.int .i64 0,.int .i64 0,.int .i64 0,.int .i64 0]).fr f1 (fun h=>h)
 have F1:=Lib.hid ((fr_alloc w (.cells #[.int .i64 0,.int .i64 0,.int .i64 0,.int .i64 0,.int .i64 0,.int .i64 0,.int .i64 0,.int .i64 0,.int .i64 0,.int .i64 0] TLg)).transNo f1)
 have q0:w1.cell? ⟨w.heap.size,0,none⟩=some (.int .i64 0):=hb.cell 0
 have q1:w1.cell? ⟨w.heap.size,1,none⟩=some (.int .i64 0):=hb.cell 1
 have q2:w1.cell? ⟨w.heap.size,2,none⟩=some (.int .i64 0):=hb.cell 2
 have q3:w1.cell? ⟨w.heap.size,3,none⟩=some (.int .i64 0):=hb.cell 3
 have q4:w1.cell? ⟨w.heap.size,4,none⟩=some (.int .i64 0):=hb.cell 4
 have q5:w1.cell? ⟨w.heap.size,5,none⟩=some (.int .i64 0):=hb.cell 5
 have q6:w1.cell? ⟨w.heap.size,6,none⟩=some (.int .i64 0):=hb.cell 6
 have q7:w1.cell? ⟨w.heap.size,7,none⟩=some (.int .i64 0):=hb.cell 7
 have q8:w1.cell? ⟨w.heap.size,8,none⟩=some (.int .i64 0):=hb.cell 8
 have q9:w1.cell? ⟨w.heap.size,9,none⟩=some (.int .i64 0):=hb.cell 9
 have y0:=hb.frozen 0
 have y1:=hb.frozen 1
 have y2:=hb.frozen 2
 have y3:=hb.frozen 3
 have y4:=hb.frozen 4
 have y5:=hb.frozen 5
 have y6:=hb.frozen 6
 have y7:=hb.frozen 7
 have y8:=hb.frozen 8
 have y9:=hb.frozen 9
 have HB:=Lib.hid hb
 clear hb
 clear f1
 go_wp2_with fail
 exact bodyPost_ret (v:= .tuple #[Lg.v ⟨t,⟨kd,tick,te,ce,ot,ep,fr,un,nn⟩⟩,.bool b]) (at_results ⟨t,⟨kd,tick,te,ce,ot,ep,fr,un,nn⟩⟩ w.heap.size _ _ _ (lg_fill ⟨t,⟨kd,tick,te,ce,ot,ep,fr,un,nn⟩⟩ HB.out) rfl rfl) rfl ⟨rfl,lg_fill_fr ⟨t,⟨kd,tick,te,ce,ot,ep,fr,un,nn⟩⟩ F1.out (Nat.le_refl _)⟩
end
end
section
theorem ms_fill {Z:World} {q:Nat} (m:Ms) (v:Value) (h:Blk Z q TMs #[.int .i64 0,.int .i64 0,.int .i64 0,.int .i64 0,.int .i64 0,.int .i64 0,.int .i64 0,.bool false,.slice none 0 0]):Blk (World.setCell (World.setCell (World.setCell (World.setCell (World.setCell (World.setCell (World.setCell (World.setCell (World.setCell Z ⟨q,0,none⟩ (.int .i64 m.kind)) ⟨q,1,none⟩ (.int .i64 m.from_)) ⟨q,2,none⟩ (.int .i64 m.to_)) ⟨q,3,none⟩ (.int .i64 m.term)) ⟨q,4,none⟩ (.int .i64 m.index)) ⟨q,5,none⟩ (.int .i64 m.prev)) ⟨q,6,none⟩ (.int .i64 m.commit)) ⟨q,7,none⟩ (.bool m.ok)) ⟨q,8,none⟩ (v)) q TMs #[.int .i64 m.kind,.int .i64 m.from_,.int .i64 m.to_,.int .i64 m.term,.int .i64 m.index,.int .i64 m.prev,.int .i64 m.commit,.bool m.ok,v]:=by
 refine Blk.conv (Blk.set_ (Blk.set_ (Blk.set_ (Blk.set_ (Blk.set_ (Blk.set_ (Blk.set_ (Blk.set_ (Blk.set_ h 0 (.int .i64 m.kind)) 1 (.int .i64 m.from_)) 2 (.int .i64 m.to_)) 3 (.int .i64 m.term)) 4 (.int .i64 m.index)) 5 (.int .i64 m.prev)) 6 (.int .i64 m.commit)) 7 (.bool m.ok)) 8 (v)) ?_
 simp only [List.setIfInBounds_toArray,List.set_cons_zero,List.set_cons_succ]
theorem ms_fill_fr {w Z:World} {q:Nat} (m:Ms) (v:Value) (h:Fr No w Z) (hq:w.heap.size≤q):Fr No w (World.setCell (World.setCell (World.setCell (World.setCell (World.setCell (World.setCell (World.setCell (World.setCell (World.setCell Z ⟨q,0,none⟩ (.int .i64 m.kind)) ⟨q,1,none⟩ (.int .i64 m.from_)) ⟨q,2,none⟩ (.int .i64 m.to_)) ⟨q,3,none⟩ (.int .i64 m.term)) ⟨q,4,none⟩ (.int .i64 m.index)) ⟨q,5,none⟩ (.int .i64 m.prev)) ⟨q,6,none⟩ (.int .i64 m.commit)) ⟨q,7,none⟩ (.bool m.ok)) ⟨q,8,none⟩ (v)):=Fr.setCell (Fr.setCell (Fr.setCell (Fr.setCell (Fr.setCell (Fr.setCell (Fr.setCell (Fr.setCell (Fr.setCell h (p:=⟨q,0,none⟩) (.inr hq) (.int .i64 m.kind)) (p:=⟨q,1,none⟩) (.inr hq) (.int .i64 m.from_)) (p:=⟨q,2,none⟩) (.inr hq) (.int .i64 m.to_)) (p:=⟨q,3,none⟩) (.inr hq) (.int .i64 m.term)) (p:=⟨q,4,none⟩) (.inr hq) (.int .i64 m.index)) (p:=⟨q,5,none⟩) (.inr hq) (.int .i64 m.prev)) (p:=⟨q,6,none⟩) (.inr hq) (.int .i64 m.commit)) (p:=⟨q,7,none⟩) (.inr hq) (.bool m.ok)) (p:=⟨q,8,none⟩) (.inr hq) (v)
theorem ms_fill_frF {w Z:World} {F:Nat→Prop} {q:Nat} (m:Ms) (v:Value) (h:Fr F w Z) (hq:F q):Fr F w (World.setCell (World.setCell (World.setCell (World.setCell (World.setCell (World.setCell (World.setCell (World.setCell (World.setCell Z ⟨q,0,none⟩ (.int .i64 m.kind)) ⟨q,1,none⟩ (.int .i64 m.from_)) ⟨q,2,none⟩ (.int .i64 m.to_)) ⟨q,3,none⟩ (.int .i64 m.term)) ⟨q,4,none⟩ (.int .i64 m.index)) ⟨q,5,none⟩ (.int .i64 m.prev)) ⟨q,6,none⟩ (.int .i64 m.commit)) ⟨q,7,none⟩ (.bool m.ok)) ⟨q,8,none⟩ (v)):=Fr.setCell (Fr.setCell (Fr.setCell (Fr.setCell (Fr.setCell (Fr.setCell (Fr.setCell (Fr.setCell (Fr.setCell h (p:=⟨q,0,none⟩) (.inl hq) (.int .i64 m.kind)) (p:=⟨q,1,none⟩) (.inl hq) (.int .i64 m.from_)) (p:=⟨q,2,none⟩) (.inl hq) (.int .i64 m.to_)) (p:=⟨q,3,none⟩) (.inl hq) (.int .i64 m.term)) (p:=⟨q,4,none⟩) (.inl hq) (.int .i64 m.index)) (p:=⟨q,5,none⟩) (.inl hq) (.int .i64 m.prev)) (p:=⟨q,6,none⟩) (.inl hq) (.int .i64 m.commit)) (p:=⟨q,7,none⟩) (.inl hq) (.bool m.ok)) (p:=⟨q,8,none⟩) (.inl hq) (v)
theorem ms_cells {w:World} {g:Nat} {m:Ms} {v:Value} (hb:Blk w g TMs #[.int .i64 m.kind,.int .i64 m.from_,.int .i64 m.to_,.int .i64 m.term,.int .i64 m.index,.int .i64 m.prev,.int .i64 m.commit,.bool m.ok,v]):w.cell? ⟨g,0,none⟩=some (.int .i64 m.kind)∧w.cell? ⟨g,1,none⟩=some (.int .i64 m.from_)∧w.cell? ⟨g,2,none⟩=some (.int .i64 m.to_)∧w.cell? ⟨g,3,none⟩=some (.int .i64 m.term)∧w.cell? ⟨g,4,none⟩=some (.int .i64 m.index)∧w.cell? ⟨g,5,none⟩=some (.int .i64 m.prev)∧w.cell? ⟨g,6,none⟩=some (.int .i64 m.commit)∧w.cell? ⟨g,7,none⟩=some (.bool m.ok)∧w.cell? ⟨g,8,none⟩=some (v):=
 ⟨hb.cell 0,hb.cell 1,hb.cell 2,hb.cell 3,hb.cell 4,hb.cell 5,hb.cell 6,hb.cell 7,hb.cell 8⟩
theorem message_results (m:Ms) (v:Value) (g:Nat) (ts:Array Value) (W:World) (hb:Blk W g TMs #[.int .i64 m.kind,.int .i64 m.from_,.int .i64 m.to_,.int .i64 m.term,.int .i64 m.index,.int .i64 m.prev,.int .i64 m.commit,.bool m.ok,v]) (h2:ts[6]?.getD undef= .pointer (some ⟨g,0,none⟩)):
  (results Try.f35 ts).run Try.prog W= .ok (m.v v) W:=by
 obtain ⟨c0,c1,c2,c3,c4,c5,c6,c7,c8⟩:=ms_cells hb
 clear hb
 simp [results,Try.results35,go_sem,h2,c0,c1,c2,c3,c4,c5,c6,c7,c8]
theorem campaign1_results (m:Ms) (v:Value) (g:Nat) (ts:Array Value) (W:World) (hb:Blk W g TMs #[.int .i64 m.kind,.int .i64 m.from_,.int .i64 m.to_,.int .i64 m.term,.int .i64 m.index,.int .i64 m.prev,.int .i64 m.commit,.bool m.ok,v]) (h2:ts[3]?.getD undef= .pointer (some ⟨g,0,none⟩)):
  (results Try.f34 ts).run Try.prog W= .ok (m.v v) W:=by
 obtain ⟨c0,c1,c2,c3,c4,c5,c6,c7,c8⟩:=ms_cells hb
 clear hb
 simp [results,Try.results34,go_sem,h2,c0,c1,c2,c3,c4,c5,c6,c7,c8]
theorem appending_results (m:Ms) (v:Value) (g:Nat) (ts:Array Value) (W:World) (hb:Blk W g TMs #[.int .i64 m.kind,.int .i64 m.from_,.int .i64 m.to_,.int .i64 m.term,.int .i64 m.index,.int .i64 m.prev,.int .i64 m.commit,.bool m.ok,v]) (h2:ts[4]?.getD undef= .pointer (some ⟨g,0,none⟩)):
  (results Try.f40 ts).run Try.prog W= .ok (m.v v) W:=by
 obtain ⟨c0,c1,c2,c3,c4,c5,c6,c7,c8⟩:=ms_cells hb
 clear hb
 simp [results,Try.results40,go_sem,h2,c0,c1,c2,c3,c4,c5,c6,c7,c8]
section
variable {w w' :World} {F:Nat→Prop} {p:Nat} {r:Rs} {s:Js} {n:Nat}
set_option maxHeartbeats 1000000 in
theorem p_lastTerm (h:RJ w p s n) (hl:s.log.length≤4096):Calls Try.prog 36 #[.pointer (some ⟨p,0,none⟩)] w fun e w' =>e= .returned (.int .i64 (lastT s.log))∧Fr No w w' :=by
 have hLen:=fun W (hW:Fr No w W)=>p_len (h.frNo hW)
 obtain ⟨j,Fj,c00,h3,-⟩:=h
 have c0:=fun W (hW:Fr No w W)=>(hW.cell (p:=⟨p,0,none⟩) (cell_lt c00) (fun h=>h)).trans c00
 have hT:=fun W (hW:Fr No w W)=>g_termAt (h3.frNo hW) ((s.log.length:Int)-1)
 have hwr:IntKind.i64.wrap ((s.log.length:Int)-1)=(s.log.length:Int)-1:=IntWalk.i64_in _ (by omega)
 unfold lastT
 generalize termAt s.log ((s.log.length:Int)-1)=t at*
 generalize s.log.length=ll at*
 clear h3 hl
 have HLEN:=Lib.hid hLen
 have HT:=Lib.hid hT
 have C0:=Lib.hid c0
 clear hLen hT c0
 go_enter Try.func36,Try.ntmps36
 go_wp2_with fail
 go_region_held3 (fun V=>V.cell? ⟨p,0,none⟩=some (.pointer (some ⟨j,0,none⟩))) (exact C0.out _ (by repeat (first|assumption|exact Fr.refl _ _|refine Fr.alloc ?_ _|refine Fr.drew ?_|refine Fr.drewN ?_ _))) (first
  |(go_at_call 17;refine (HLEN.out _ (by repeat (first|assumption|exact Fr.refl _ _|refine Fr.alloc ?_ _|refine Fr.drew ?_|refine Fr.drewN ?_ _))).mono ?_;rintro e w1 ⟨rfl,rfl⟩)
  |(go_at_call 42;refine (HT.out _ (by repeat (first|assumption|exact Fr.refl _ _|refine Fr.alloc ?_ _|refine Fr.drew ?_|refine Fr.drewN ?_ _))).mono ?_;rintro e w2 ⟨rfl,f2⟩;have Q2:Fr No w w2:=Fr.transNo (by repeat (first|assumption|exact Fr.refl _ _|refine Fr.alloc ?_ _|refine Fr.drew ?_|refine Fr.drewN ?_ _)) f2;clear f2))
 all_goals
  go_wp2_with fail
  go_ret
  exact ⟨rfl,(by repeat (first|assumption|exact Fr.refl _ _|refine Fr.alloc ?_ _|refine Fr.drew ?_|refine Fr.drewN ?_ _))⟩
set_option maxHeartbeats 1000000 in
theorem p_message (h:RAt w F p r n) (kind dst:Int):Calls Try.prog 35 #[.pointer (some ⟨p,0,none⟩),.int .i64 kind,.int .i64 dst] w fun e w' =>e= .returned (Ms.v ⟨kind,r.id,dst,r.js.term,0,0,0,false,[]⟩ (.slice none 0 0))∧Fr No w w' :=by
 have hTerm:=fun W (hW:Fr No w W)=>p_term (h.frNo hW).rj
 obtain ⟨j,Fj,bits,nx,mt,h1,-⟩:=h
 have c1:∀W,Fr No w W→W.cell? ⟨p,1,none⟩=some (.int .i64 (r.id:Int)):=fun W hW=>(h1.fr hW (fun h=>h)).cell 1
 have hpl:=h1.lt
 clear h1
 generalize r.js.term=t at*
 generalize (r.id:Int)=id at*
 have HTERM:=Lib.hid hTerm
 have C1:=Lib.hid c1
 clear hTerm c1
 go_enter Try.func35,Try.ntmps35
 go_wp2_with fail
 go_region_held3 (fun V=>V.cell? ⟨p,1,none⟩=some (.int .i64 id)) (exact C1.out _ (by repeat (first|assumption|exact Fr.refl _ _|refine Fr.alloc ?_ _|refine Fr.drew ?_|refine Fr.drewN ?_ _))) (first
  |(go_at_call 14;refine (HTERM.out _ (by repeat (first|assumption|exact Fr.refl _ _|refine Fr.alloc ?_ _|refine Fr.drew ?_|refine Fr.drewN ?_ _))).mono ?_;rintro e w1 ⟨rfl,rfl⟩))
 all_goals
  go_wp2_with fail
  exact bodyPost_ret (v:=Ms.v ⟨kind,id,dst,t,0,0,0,false,[]⟩ (.slice none 0 0)) (message_results ⟨kind,id,dst,t,0,0,0,false,[]⟩ _ w.heap.size _ _ (Blk.new _ _ _) rfl) rfl ⟨rfl,(by repeat (first|assumption|exact Fr.refl _ _|refine Fr.alloc ?_ _|refine Fr.drew ?_|refine Fr.drewN ?_ _))⟩
end
end
section
theorem Rd.new2 (w:World) (X:Obj) (cs:List Value) (t:TypeId) {xs:List Value} (h:cs=xs):Rd ((w.alloc X).alloc (.cells cs.toArray t)) (w.heap.size+2) (some ⟨w.heap.size+1,0,none⟩) xs:=by
 have:=Rd.new (w.alloc X) cs t h
 simpa using this
theorem log_one (x:Lg):∀u∈x.cells,u.oneCell' =true:=by
 intro u hu
 simp only [Lg.cells,List.mem_cons,List.not_mem_nil,or_false] at hu
 rcases hu with rfl|rfl|rfl|rfl|rfl|rfl|rfl|rfl|rfl|rfl<;>rfl
def Part (w0:World) (l:List Lg) (i0:Nat) (k:Nat) (v:Value) (w:World):Prop:=
 ∃A c,v= .slice A (k-i0) c∧OwnN w (fun b=>w0.heap.size≤b) TLg 10 (.slice A (k-i0) c) (k-i0) (logV ((l.drop i0).take (k-i0)))
def FromTo (w:World) (l:List Lg) (e:Ending) (w' :World):Prop:=
 ∃A c,e= .returned (.slice A l.length c)∧OwnN w' (fun b=>w.heap.size≤b) TLg 10 (.slice A l.length c) l.length (logV l)∧Fr No w w'
theorem Part.frNo {w0 w w' :World} {l:List Lg} {i0 k:Nat} {v:Value} (h:Part w0 l i0 k v w) (hf:Fr No w w'):Part w0 l i0 k v w' :=by
 obtain ⟨A,c,h1,h2⟩:=h
 exact ⟨A,c,h1,h2.frNo hf⟩
theorem Part.next {w0 W w1:World} {l:List Lg} {i0 k:Nat} {A:Option Addr} {c:Nat} {x:Lg} {v' :Value} (hs:w0.heap.size≤W.heap.size) (ho:OwnN W (fun b=>w0.heap.size≤b) TLg 10 (.slice A (k-i0) c) (k-i0) (logV ((l.drop i0).take (k-i0)))) (hi:i0≤k) (hx:l[k]? =some x)
  (ha:AppendedN W 0 TLg 10 (.slice A (k-i0) c) (k-i0) (logV ((l.drop i0).take (k-i0))) x.cells 1 v' w1):Part w0 l i0 (k+1) v' w1∧Fr (fun b=>w0.heap.size≤b) W w1:=by
 obtain ⟨o1,f1⟩:=ho.appended ha
 have o2:=o1.mono (G:=fun b=>w0.heap.size≤b) fun i hi=>by rcases hi with hi|hi<;>omega
 have e1:(l.drop i0).take (k+1-i0)=(l.drop i0).take (k-i0)++[x]:=by
  rw [show k+1-i0=(k-i0)+1 from by omega,List.take_add_one]
  congr 1
  rw [List.getElem?_drop,show i0+(k-i0)=k from by omega,hx]
  rfl
 obtain ⟨A',c',e2,-⟩:=o2.form
 refine ⟨⟨A',c',by rw [e2,show k+1-i0=k-i0+1 from by omega],?_⟩,f1⟩
 rw [e1,logV_snoc,show k+1-i0=k-i0+1 from by omega,←e2]
 exact o2
section
variable {w w' :World} {F:Nat→Prop} {p:Nat} {r:Rs} {s:Js} {n:Nat}
set_option maxHeartbeats 2000000 in
theorem p_from (h:RJ w p s n) (hl:s.log.length≤4096) (i0:Nat) (hi:i0≤s.log.length):Calls Try.prog 30 #[.pointer (some ⟨p,0,none⟩),.int .i64 (i0:Int)] w (FromTo w (s.log.drop i0)):=by
 obtain ⟨i1,hi1,hz0,hz1,hz2⟩:=info_parts log_info
 have hLen:=fun W (hW:Fr No w W)=>p_len (h.frNo hW)
 have hAt:=fun W (hW:Fr No w W) i=>p_at (h.frNo hW) i
 clear h
 have HLEN:=Lib.hid hLen
 have HAT:=Lib.hid hAt
 clear hLen hAt
 go_enter Try.func30,Try.ntmps30
 go_wp2_with fail
 go_loopw [1,5] (fun i v wr=>∃k:Nat,i0≤k∧k≤s.log.length∧i= .int .i64 k∧Part w s.log i0 k v wr∧Fr No w wr) (fun i _ _=>s.log.length-(intOf i).toNat)
 case atStart=>exact ⟨i0,Nat.le_refl _,hi,rfl,⟨none,0,by simp,by simp [logV];exact OwnN.nil _ _ _ _⟩,Fr.refl _ _⟩
 case round=>
  obtain ⟨k,hk1,hk2,rfl,⟨A,c,rfl,hown⟩,hf⟩:=hrel
  have HOWN:=Lib.hid hown
  have HF:=Lib.hid hf
  clear hown hf
  go_wp2_with fail
  refine (HLEN.out _ HF.out).mono ?_
  rintro e w5 ⟨rfl,rfl⟩
  by_cases hlt:k<s.log.length
  ·have hlt2:(k:Int)<(s.log.length:Int):=by omega
   obtain ⟨x,hx⟩:∃x,s.log[k]? =some x:=⟨_,List.getElem?_eq_getElem hlt⟩
   have hat:=HAT.out _ HF.out (k:Int)
   rw [show atJ s.log (k:Int)=(x,true) from by unfold atJ;rw [if_pos (by omega),Int.toNat_natCast,hx]] at hat
   have hnext:=fun W v' w1 (hs:w.heap.size≤W.heap.size) ho ha=>Part.next (w0:=w) (W:=W) (A:=A) (c:=c) (v' :=v') (w1:=w1) hs ho hk1 hx ha
   obtain ⟨t,⟨kd,tick,te,ce,ot,ep,fr,un,nn⟩⟩:=x
   unfold Lg.v at hat
   simp only at hat
   clear hx
   have HAT:=Lib.hid hat
   have HNEXT:=Lib.hid hnext
   clear hat hnext
   go_wp2_with fail
   refine HAT.out.mono ?_
   rintro e w6 ⟨rfl,f6⟩
   have O6:=Lib.hid ((HOWN.out.frNo f6))
   have F6:=Lib.hid (HF.out.transNo f6)
   have hs6:=F6.out.size
   have hO6:=O6.out.cap
   clear f6
   go_wp2_with (at_builtin;refine wpList_append_rdN _ rfl (.tmp 20) (.tmp 22) _ rfl 0 TLg i1 _ 10 80 Try.underlying51 hi1 hz0 hz1 hz2 rfl (by decide) (.slice A (k-i0) c) (k-i0) (logV ((s.log.drop i0).take (k-i0))) rfl (O6.out.frNo ((fr_alloc _ _).alloc _)).1 (w6.heap.size+2) (some ⟨w6.heap.size+1,0,none⟩) 1 1 (Lg.cells (⟨t,⟨kd,tick,te,ce,ot,ep,fr,un,nn⟩⟩:Lg)) rfl ?c1 ?c2 ?c3 ?c4 ?c5 ?c6 ?c7 ?_)
   case c1=>exact fun h=>by cases h
   case c2=>exact Rd.new2 _ _ _ _ rfl
   case c3=>rfl
   case c4=>exact log_one _
   case c5=>unfold maxLen;omega
   case c6=>omega
   case c7=>exact Nat.zero_le _
   intro v1 w1 happ
   obtain ⟨p1,f1⟩:=HNEXT.out _ v1 w1 (by simp;omega) (O6.out.frNo ((fr_alloc _ _).alloc _)) happ
   have F1:=Lib.hid (((F6.out.alloc _).alloc _).transNew f1 fun _ h=>h)
   clear happ f1
   have P1:=Lib.hid p1
   clear p1
   go_wp2_with fail
   go_roundw
   case rel=>exact ⟨k+1,by omega,by omega,by go_num,P1.out,F1.out⟩
   case measure=>simp [intOf];omega
  ·have hge:k=s.log.length:=by omega
   subst hge
   go_wp2_with fail
   go_ret
   have e1:(s.log.drop i0).take (s.log.length-i0)=s.log.drop i0:=List.take_of_length_le (by rw [List.length_drop];omega)
   have e2:s.log.length-i0=(s.log.drop i0).length:=by rw [List.length_drop]
   have ho:=HOWN.out
   rw [e1] at ho
   rw [e2] at ho ⊢
   exact ⟨A,c,rfl,ho,HF.out⟩
end
end
end Go.Proofs.Ytjnfmfmglehmbaa
