/-
  The reference's replica in memory. The program's replica: the log is cut, and entries are appended.
-/
import Derived.Test.YtjnfmfmglehmbaaY16
import Derived.Deep.CutBlock
namespace Go.Proofs.Ytjnfmfmglehmbaa
open Go.ChangeShapes Go.WideShapes Go.ChangeAt Go.RowKit
set_option linter.unusedVariables false
set_option maxRecDepth 100000
set_option maxHeartbeats 16000000
section
abbrev TBo:TypeId:=4
abbrev TIn:TypeId:=3
def bitsV (v n:Nat):List Value:=(List.range n).map fun i=> .bool (v.testBit i)
def natsV (f:Nat→Nat) (n:Nat):List Value:=(List.range n).map fun i=> .int .i64 (f i:Int)
def Five (l:List Value):Prop:=l.length≤5∧∀u,u∈l→u.oneCell' =true
theorem Five.nil:Five []:=⟨by decide,fun u hu=>by cases hu⟩
abbrev rrCells (j:Nat) (r:Rs) (V X M:Value):Array Value:= #[.pointer (some ⟨j,0,none⟩),.int .i64 r.id,.int .i64 r.n,.int .i64 r.role,.int .i64 r.commit,V,X,M]
structure Rows (w:World) (F Fj:Nat→Prop) (r:Rs) (V X M:Value) (bs xs ms:List Value):Prop where
 ov:Own w F TBo V bs
 ox:Own w F TIn X xs
 om:Own w F TIn M ms
 av:∀g,V.ownBlock=some g→¬Fj g
 ax:∀g,X.ownBlock=some g→¬Fj g
 am:∀g,M.ownBlock=some g→¬Fj g
 xm:∀g,X.ownBlock=some g→M.ownBlock≠some g
 sv:r.role=2→bs=bitsV r.votes r.n
 sx:r.role=3→xs=natsV r.next r.n∧ms=natsV r.mtch r.n
 one:Five bs∧Five xs∧Five ms
def RRAt (w:World) (F:Nat→Prop) (p:Nat) (r:Rs) (n:Nat):Prop:=
 ∃j Fj V X M bs xs ms,Blk w p TRR (rrCells j r V X M)∧F p∧RG true w Fj j r.js n∧(∀i,Fj i→F i)∧¬Fj p∧(∀i,F i→i<w.heap.size)∧Rows w F Fj r V X M bs xs ms∧RsOk r
def RRTo (w:World) (F:Nat→Prop) (p:Nat) (r:Rs) (n:Nat) (w' :World):Prop:=
 ∃F',RRAt w' F' p r n∧(∀i,F' i→F i∨w.heap.size≤i)∧Fr F w w'
section
variable {w w' w1:World} {F G Fj:Nat→Prop} {p:Nat} {r r' :Rs} {n m:Nat} {V X M:Value} {bs xs ms:List Value}
theorem Rows.fr (h:Rows w F Fj r V X M bs xs ms) (hf:Fr G w w') (hv:∀g,V.ownBlock=some g→¬G g) (hx:∀g,X.ownBlock=some g→¬G g) (hm:∀g,M.ownBlock=some g→¬G g):Rows w' F Fj r V X M bs xs ms:=
 ⟨h.ov.fr' hf hv,h.ox.fr' hf hx,h.om.fr' hf hm,h.av,h.ax,h.am,h.xm,h.sv,h.sx,h.one⟩
theorem Rows.frNo (h:Rows w F Fj r V X M bs xs ms) (hf:Fr No w w'):Rows w' F Fj r V X M bs xs ms:=h.fr hf (fun _ _ h=>h) (fun _ _ h=>h) (fun _ _ h=>h)
theorem Rows.same (h:Rows w F Fj r V X M bs xs ms) (h1:r'.role=r.role) (h2:r'.votes=r.votes) (h3:r'.next=r.next) (h4:r'.mtch=r.mtch) (h5:r'.n=r.n):Rows w F Fj r' V X M bs xs ms:=
 ⟨h.ov,h.ox,h.om,h.av,h.ax,h.am,h.xm,fun hr=>by rw [h2,h5];exact h.sv (h1▸hr),fun hr=>by rw [h3,h4,h5];exact h.sx (h1▸hr),h.one⟩
theorem Rows.mono (h:Rows w F Fj r V X M bs xs ms) (h1:∀i,F i→G i) {Fk:Nat→Prop} (h2:∀i,Fk i→Fj i∨w.heap.size≤i):Rows w G Fk r V X M bs xs ms:=by
 have k:=fun (v:Value) (hv:∀g,v.ownBlock=some g→¬Fj g) (hl:∀g,v.ownBlock=some g→g<w.heap.size) g (hg:v.ownBlock=some g) (hk:Fk g)=>(h2 g hk).elim (hv g hg) fun h=>by have:=hl g hg;omega
 exact ⟨h.ov.mono h1,h.ox.mono h1,h.om.mono h1,k V h.av h.ov.lt,k X h.ax h.ox.lt,k M h.am h.om.lt,h.xm,h.sv,h.sx,h.one⟩
theorem RRAt.fr (h:RRAt w F p r n) (hf:Fr G w w') (hd:∀i,F i→¬G i):RRAt w' F p r n:=by
 obtain ⟨j,Fj,V,X,M,bs,xs,ms,h1,h2,h3,h4,h5,h6,h7,h8⟩:=h
 exact ⟨j,Fj,V,X,M,bs,xs,ms,h1.fr hf (hd p h2),h2,h3.fr hf fun i hi=>hd i (h4 i hi),h4,h5,fun i hi=>Nat.lt_of_lt_of_le (h6 i hi) hf.size,h7.fr hf (fun g hg=>hd g (h7.ov.2 g hg)) (fun g hg=>hd g (h7.ox.2 g hg)) (fun g hg=>hd g (h7.om.2 g hg)),h8⟩
theorem RRAt.frNo (h:RRAt w F p r n) (hf:Fr No w w'):RRAt w' F p r n:=h.fr hf fun _ _ hi=>hi
theorem RRAt.lt (h:RRAt w F p r n):∀i,F i→i<w.heap.size:=by
 obtain ⟨j,Fj,V,X,M,bs,xs,ms,h1,h2,h3,h4,h5,h6,h7⟩:=h
 exact h6
theorem RRAt.ok (h:RRAt w F p r n):RsOk r:=by
 obtain ⟨j,Fj,V,X,M,bs,xs,ms,h1,h2,h3,h4,h5,h6,h7,h8⟩:=h
 exact h8
theorem RRAt.more (h:RRAt w F p r n) (hn:n≤m):RRAt w F p r m:=by
 obtain ⟨j,Fj,V,X,M,bs,xs,ms,h1,h2,h3,h4⟩:=h
 exact ⟨j,Fj,V,X,M,bs,xs,ms,h1,h2,h3.more hn,h4⟩
theorem RRAt.self (h:RRAt w F p r n):RRTo w F p r n w:=⟨F,h,fun _ hi=> .inl hi,Fr.refl _ _⟩
theorem RRAt.still (h:RRAt w F p r n) (hf:Fr No w w'):RRTo w F p r n w' :=⟨F,h.frNo hf,fun _ hi=> .inl hi,hf.mono fun _ hi=>hi.elim⟩
theorem RRTo.trans (h:RRTo w F p r n w1) (h2:∀F',RRAt w1 F' p r n→RRTo w1 F' p r' m w'):RRTo w F p r' m w' :=by
 obtain ⟨F1,h3,h4,h5⟩:=h
 obtain ⟨F2,g3,g4,g5⟩:=h2 F1 h3
 refine ⟨F2,g3,fun i hi=> ?_,h5.trans g5 h4⟩
 rcases g4 i hi with h|h
 ·exact h4 i h
 ·exact .inr (Nat.le_trans h5.size h)
theorem RRTo.after (hf:Fr No w w1) (h:RRTo w1 F p r n w'):RRTo w F p r n w' :=by
 obtain ⟨F',h1,h2,h3⟩:=h
 exact ⟨F',h1,fun i hi=>(h2 i hi).imp id (Nat.le_trans hf.size),(hf.mono (G:=F) fun _ hi=>hi.elim).trans h3 fun i hi=> .inl hi⟩
theorem RRTo.more (h:RRTo w F p r n w') (hn:n≤m):RRTo w F p r m w' :=by
 obtain ⟨F',h1,h2⟩:=h
 exact ⟨F',h1.more hn,h2⟩
theorem RRTo.own {w0:World} (h:RRTo w1 F p r n w') (hf:Fr No w0 w1) (hN:∀i,F i→w0.heap.size≤i):∃F',RRAt w' F' p r n∧(∀i,F' i→w0.heap.size≤i)∧Fr No w0 w' :=by
 obtain ⟨F',g1,g2,g3⟩:=h
 exact ⟨F',g1,fun i hi=>(g2 i hi).elim (fun h=>hN i h) (fun h=>Nat.le_trans hf.size h),hf.transNew g3 hN⟩
theorem RRAt.jrn {j:Nat} {s' :Js} (h1:Blk w p TRR (rrCells j r V X M)) (h2:F p) (h4:∀i,Fj i→F i) (h5:¬Fj p) (h6:∀i,F i→i<w.heap.size) (h7:Rows w F Fj r V X M bs xs ms)
  (hj:RGTo true w Fj j s' m w') (hr:RsOk {r with js:=s'}):RRTo w F p {r with js:=s'} m w' :=by
 obtain ⟨Fj',g1,g2,g3⟩:=hj
 have hpl:=h6 p h2
 refine ⟨fun i=>F i∨(w.heap.size≤i∧i<w'.heap.size),⟨j,Fj',V,X,M,bs,xs,ms,h1.fr g3 h5,.inl h2,g1,fun i hi=> ?_,fun hi=> ?_,fun i hi=> ?_,((h7.mono (fun i hi=> .inl hi) g2).fr g3 h7.av h7.ax h7.am).same rfl rfl rfl rfl rfl,hr⟩,fun i hi=> ?_,g3.mono h4⟩
 ·rcases g2 i hi with h|h
  ·exact .inl (h4 i h)
  ·exact .inr ⟨h,g1.lt i hi⟩
 ·rcases g2 p hi with h|h
  ·exact h5 h
  ·omega
 ·rcases hi with h|h
  ·exact Nat.lt_of_lt_of_le (h6 i h) g3.size
  ·exact h.2
 ·rcases hi with h|h
  ·exact .inl h
  ·exact .inr h.1
theorem RRAt.cells {j:Nat} (h0:Blk w p TRR (rrCells j r V X M)) (h2:F p) (h3:RG true w Fj j r.js n) (h4:∀i,Fj i→F i) (h5:¬Fj p) (h6:∀i,F i→i<w.heap.size) (h7:Rows w F Fj r V X M bs xs ms)
  (hf:Fr (fun i=>i=p) w w') (hb:Blk w' p TRR (rrCells j r' V X M)) (hjs:r'.js=r.js) (h7' :Rows w F Fj r' V X M bs xs ms) (hr:RsOk r'):RRTo w F p r' n w' :=by
 have ne:=fun (e:TypeId) (v:Value) (xs:List Value) (ho:Own w F e v xs) (hne:e≠TRR) g (hg:v.ownBlock=some g)=>ho.ne_blk h0 hne g hg
 refine ⟨F,⟨j,Fj,V,X,M,bs,xs,ms,hb,h2,?_,h4,h5,fun i hi=>Nat.lt_of_lt_of_le (h6 i hi) hf.size,h7'.fr hf (ne _ _ _ h7.ov (by decide)) (ne _ _ _ h7.ox (by decide)) (ne _ _ _ h7.om (by decide)),hr⟩,fun i hi=> .inl hi,hf.mono fun i hi=>hi▸h2⟩
 rw [hjs]
 exact h3.fr hf fun i hi he=>h5 (he▸hi)
theorem rr_new (id n:Nat) (w:World) (hid:id<n) (hn:n≤5) (hodd:n % 2=1):Calls Try.prog 5 #[.int .i64 (id:Int),.int .i64 (n:Int)] w fun e w' =>∃p F,e= .returned (.tuple #[.pointer (some ⟨p,0,none⟩),.int .i64 0])∧RRAt w' F p (repNew id n) 0∧(∀i,F i→w.heap.size≤i)∧Fr No w w' :=by
 refine (rp_new id n w hid hn hodd).mono ?_
 rintro e w' ⟨p,F,rfl,⟨j,d,Fj,b1,b2,b3,b4,b5,b6⟩,a3,a4⟩
 refine ⟨p,F,rfl,⟨j,Fj,.slice none 0 0,.slice none 0 0,.slice none 0 0,[],[],[],b1,b2,⟨d,[],0,[],b3,Good.new,by simp [repNew,jsNew],Nat.le_refl _,fun _=>rfl⟩,b4,b6,b5,⟨Own.nil _ _ _,Own.nil _ _ _,Own.nil _ _ _,(fun g hg=>by cases hg),(fun g hg=>by cases hg),(fun g hg=>by cases hg),(fun g hg=>by cases hg),(fun h=>by cases h),(fun h=>by cases h),⟨Five.nil,Five.nil,Five.nil⟩⟩,RsOk.new hid hn⟩,a3,a4⟩
end
end
section
theorem JGTo.more {y:Bool} {w w' :World} {F:Nat→Prop} {j n m:Nat} {s:Js} (h:JGTo y w F j s n w') (hn:n≤m):JGTo y w F j s m w' :=by
 obtain ⟨F',h1,h2,h3⟩:=h
 exact ⟨F',h1.more hn,h2,h3⟩
theorem JGTo.after {y:Bool} {w w1 w' :World} {F:Nat→Prop} {j n:Nat} {s:Js} (hf:Fr No w w1) (h:JGTo y w1 F j s n w'):JGTo y w F j s n w' :=by
 obtain ⟨F',h1,h2,h3⟩:=h
 exact ⟨F',h1,fun i hi=>(h2 i hi).imp id (Nat.le_trans hf.size),(hf.mono (G:=F) fun _ hi=>hi.elim).trans h3 fun i hi=> .inl hi⟩
section
variable {w w' :World} {F G:Nat→Prop} {p:Nat} {r:Rs} {s:Js} {n:Nat}
end
end
end Go.Proofs.Ytjnfmfmglehmbaa
