/-
  Frames with footprints: which blocks a call may have turned; rows that a structure owns.
-/
import Derived.Test.YtodkhcbjpodgeaaGreatG06
import Derived.Test.YtodkhcbjpodgeaaGreatG00
import Derived.Laws.Rows
namespace Go.Proofs.YtodkhcbjpodgeaaGreat
open Go.ChangeShapes Go.WideShapes Go.ChangeAt Go.RowKit
set_option linter.unusedVariables false
set_option maxRecDepth 100000
set_option maxHeartbeats 4000000
section
structure Fr (F:Nat→Prop) (w w' :World):Prop where
 os:w'.os=w.os
 tape:w'.tape=w.tape
 output:w'.output=w.output
 size:w.heap.size≤w'.heap.size
 block:∀i,i<w.heap.size→¬F i→w'.heap[i]? =w.heap[i]?
abbrev No:Nat→Prop:=fun _=>False
section
variable {F G:Nat→Prop}{a w w' w'' :World}
theorem Fr.refl (F:Nat→Prop)(w:World):Fr F w w:=⟨rfl,rfl,rfl,Nat.le_refl _,fun _ _ _=>rfl⟩
theorem Fr.trans (h:Fr F w w')(k:Fr G w' w'')(hG:∀i,G i→F i∨w.heap.size≤i):Fr F w w'' :=
 ⟨k.os.trans h.os,k.tape.trans h.tape,k.output.trans h.output,Nat.le_trans h.size k.size,fun i hi hn=>
  (k.block i (nll hi h.size) (fun hg=>by
   rcases hG i hg with h1|h1
   ·exact hn h1
   ·omega)).trans (h.block i hi hn)⟩
theorem Fr.mono (h:Fr F w w')(hFG:∀i,F i→G i):Fr G w w' :=⟨h.os,h.tape,h.output,h.size,fun i hi hn=>h.block i hi fun hf=>hn (hFG i hf)⟩
theorem Fr.drew (h:Fr F a w):Fr F a w.drew:=⟨h.os,h.tape,h.output,h.size,h.block⟩
theorem Fr.drewN (h:Fr F a w)(n:Nat):Fr F a (w.drewN n):=⟨h.os,h.tape,h.output,h.size,h.block⟩
theorem Fr.alloc (h:Fr F a w)(o:Obj):Fr F a (w.alloc o):=
 ⟨h.os,h.tape,h.output,Nat.le_trans h.size (by simp),fun i hi hn=>(Below.heap_alloc w o i (nll hi h.size)).trans (h.block i hi hn)⟩
theorem Fr.setCell (h:Fr F a w){p:Addr}(hp:F p.block∨a.heap.size≤p.block)(u:Value):Fr F a (w.setCell p u):=
 ⟨h.os,h.tape,h.output,by simpa [World.setCell] using h.size,fun i hi hn=>(Below.heap_setCell w p u i (by
  rintro rfl
  rcases hp with hp|hp
  ·exact hn hp
  ·omega)).trans (h.block i hi hn)⟩
theorem Fr.grown (h:Fr F a w){row:Option Nat}(hg:w.grownBy w' row)(hr:∀k,row=some k→F k∨a.heap.size≤k):Fr F a w' :=
 ⟨hg.os.trans h.os,hg.tape.trans h.tape,hg.output.trans h.output,Nat.le_trans h.size hg.size,fun i hi hn=>
  (hg.block i (nll hi h.size) (fun e=>by
   rcases hr i e.symm with h1|h1
   ·exact hn h1
   ·omega)).trans (h.block i hi hn)⟩
theorem Fr.cell (h:Fr F w w'){p:Addr}(hp:p.block<w.heap.size)(hn:¬F p.block):w'.cell? p=w.cell? p:=World.cell?_of_block (w:=w) (h.block p.block hp hn)
theorem Fr.frozen (h:Fr F w w'){p:Addr}(hp:p.block<w.heap.size)(hn:¬F p.block):w'.frozen? p=w.frozen? p:=World.frozen?_of_block (w:=w) (h.block p.block hp hn)
theorem Fr.below (h:Fr F w w'){B:Nat}(hB:B≤w.heap.size)(hF:∀i,F i→B≤i):Below B w w' :=
 ⟨h.os,h.tape,h.output,h.size,fun i hi=>h.block i oy fun hf=>by have:=hF i hf;omega⟩
theorem Fr.of_below (h:Below w.heap.size w w'):Fr No w w' :=⟨h.os,h.tape,h.output,h.size,fun i hi _=>h.block i hi⟩
theorem Fr.rd (h:Fr F w w'){B:Nat}{A:Option Addr}{xs:List Value}(hr:Rd w B A xs)(hB:B≤w.heap.size)(hF:∀i,F i→B≤i):Rd w' B A xs:=
 hr.below (h.below hB hF)
end
def Own (w:World)(F:Nat→Prop)(e:TypeId)(v:Value)(xs:List Value):Prop:=
 w.ownsRow 0 e 1 v xs.length xs∧∀g,v.ownBlock=some g→F g
section
variable {w w' :World}{F G:Nat→Prop}{e:TypeId}{v:Value}{xs:List Value}
theorem Own.fr' (h:Own w F e v xs)(hf:Fr G w w')(hd:∀g,v.ownBlock=some g→¬G g):Own w' F e v xs:=by
 refine ⟨⟨h.1.1,?_⟩,h.2⟩
 rcases h.1.2 with hn|⟨g,cap,cur,rfl,hb,hgg,rest⟩
 ·exact .inl hn
 ·refine .inr ⟨g,cap,cur,rfl,hb,?_,rest⟩
  rw [hf.block g (Array.getElem?_eq_some_iff.1 hgg).1 (hd g rfl)];exact hgg
theorem Own.fr (h:Own w F e v xs)(hf:Fr G w w')(hd:∀i,F i→¬G i):Own w' F e v xs:=h.fr' hf fun g hg=>hd g (h.2 g hg)
theorem Own.own (h:Own w F e v xs){n:Nat}(hn:xs.length=n):w.ownsRow 0 e 1 v n xs:=hn▸h.1
theorem Own.mono (h:Own w F e v xs)(hFG:∀i,F i→G i):Own w G e v xs:=⟨h.1,fun g hg=>hFG g (h.2 g hg)⟩
theorem Own.form (h:Own w F e v xs):∃A cap,v= .slice A xs.length cap∧(A=none→xs.length=0):=ay h.1
theorem Own.nil (w:World)(F:Nat→Prop)(e:TypeId):Own w F e (.slice none 0 0) []:=⟨World.ownsRow_nil _ _ _ _,fun g hg=>by cases hg⟩
theorem Own.rd {A:Option Addr}{n c:Nat}(h:Own w F e (.slice A n c) xs):Rd w w.heap.size A xs:=by
 have h1:=h.1;obtain ⟨A',cap',hv,_⟩:=ay h1;injection hv with e1 e2 e3;subst e1 e2 e3;exact Rd.wL h1
theorem Own.len {A:Option Addr}{n c:Nat}(h:Own w F e (.slice A n c) xs):n=xs.length∧(A=none→n=0):=by
 obtain ⟨A',cap',hv,hn⟩:=h.form;injection hv with e1 e2 e3;subst e1 e2 e3;exact ⟨rfl,hn⟩
theorem Own.appended (h:Own w F e v xs){news:List Value}{n m:Nat}(hn:xs.length=n)(hm:news.length=m){v' :Value}(ha:gV w 0 e v n xs news m v' w'):
  Own w' (fun i=>F i∨(i=w.heap.size∧i<w'.heap.size)) e v' (xs++news)∧Fr F w w' :=by
 subst hm hn;refine ⟨⟨by rw [List.length_append];exact ha.1,fun g hg=> ?_⟩,(Fr.refl F w).grown ha.2.1 fun k hk=> .inl (h.2 k hk)⟩
 rcases ha.2.2 with e1|e1
 ·exact .inl (h.2 g (e1.symm.trans hg))
 ·have hlt:=(ha.1.lt g hg).2
  rw [e1] at hg;injection hg with hg;exact .inr ⟨hg.symm,hlt⟩
theorem Own.cap {A:Option Addr}{n c:Nat}(h:Own w F e (.slice A n c) xs):n≤c∧c≤maxLen:=by
 obtain ⟨rfl,hn⟩:=h.len
 rcases h.1.2 with ⟨hv,h0⟩|⟨g,cap,cur,hv,hb,hgg,hnc,hcm,hcs,htk⟩
 ·injection hv with e1 e2 e3
  omega
 ·injection hv with e1 e2 e3
  subst e3;exact ⟨hnc,hcm⟩
end
def Blk (w:World)(g:Nat)(t:TypeId)(cs:Array Value):Prop:=w.heap[g]? =some (.cells cs t (0,0))
section
variable {w w' :World}{F:Nat→Prop}{g:Nat}{t:TypeId}{cs:Array Value}
theorem Blk.lt (h:Blk w g t cs):g<w.heap.size:=(Array.getElem?_eq_some_iff.1 h).1
theorem Blk.cell (h:Blk w g t cs)(i:Nat):w.cell? ⟨g,i,none⟩=cs[i]? :=cell_of_row w g i cs t (0,0) h
theorem Blk.frozen (h:Blk w g t cs)(i:Nat):w.frozen? ⟨g,i,none⟩=false:=by
 unfold Blk at h
 simp [World.frozen?,h]
theorem Blk.new (w:World)(t:TypeId)(cs:Array Value):Blk (w.alloc (.cells cs t)) w.heap.size t cs:=heap_alloc_new w _
theorem Blk.fr (h:Blk w g t cs)(hf:Fr F w w')(hn:¬F g):Blk w' g t cs:=(hf.block g h.lt hn).trans h
theorem Blk.aC (h:Blk w g t cs)(i:Nat)(u:Value):Blk (w.setCell ⟨g,i,none⟩ u) g t (cs.setIfInBounds i u):=by
 unfold Blk at h ⊢
 simp [World.setCell,Array.getElem?_modify,h]
theorem gU (w:World)(p:Addr)(u:Value):Fr (fun i=>i=p.block) w (w.setCell p u):=(Fr.refl (fun i=>i=p.block) w).setCell (p:=p) (.inl rfl) u
theorem Own.aW {e:TypeId}{v:Value}{xs:List Value}(h:Own w F e v xs)(hb:Blk w g t cs)(hne:e≠t):∀k,v.ownBlock=some k→k≠g:=by
 intro k hk
 rcases h.1.2 with ⟨rfl,_⟩|⟨g',cap,cur,rfl,_,hh,_⟩
 ·cases hk
 ·rintro rfl
  obtain rfl:g' =k:=by simpa [Value.ownBlock] using hk
  unfold Blk at hb;rw [hh] at hb;injection hb with hb;injection hb with _ ht;exact hne ht
end
theorem Rd.new (w:World)(cs:List Value)(t:TypeId){xs:List Value}(h:cs=xs):Rd (w.alloc (.cells cs.toArray t)) (w.heap.size+1) (some ⟨w.heap.size,0,none⟩) xs:=by
 subst h;refine .inr ⟨_,0,rfl,by omega,fun j hj=> ?_⟩;rw [(Blk.new w t cs.toArray).cell,Nat.zero_add]
 simp [List.getElem?_eq_getElem hj]
theorem Rd.au {w w' :World}{B:Nat}{A:Option Addr}{xs:List Value}(hr:Rd w B A xs)(h:Fr No w w')(hB:B≤w.heap.size):Rd w' B A xs:=h.rd hr hB fun _ hi=>hi.elim
theorem Own.au {w w' :World}{F:Nat→Prop}{e:TypeId}{v:Value}{xs:List Value}(h:Own w F e v xs)(hf:Fr No w w'):Own w' F e v xs:=h.fr hf fun _ _ hi=>hi
theorem aj (w:World)(o:Obj):Fr No w (w.alloc o):=(Fr.refl _ _).alloc o
theorem Fr.ah {w w' w'' :World}(h:Fr No w w')(k:Fr No w' w''):Fr No w w'' :=h.trans k fun _ hi=>hi.elim
theorem Fr.aD {w w' w'' :World}{F:Nat→Prop}(h:Fr No w w')(k:Fr F w' w'')(hF:∀i,F i→w.heap.size≤i):Fr No w w'' :=h.trans k fun i hi=> .inr (hF i hi)
theorem Fr.vL {w w' :World}(h:Fr No w w'):Below w.heap.size w w' :=h.below (Nat.le_refl _) fun _ hi=>hi.elim
theorem Own.jL {w w' :World}{B:Nat}{e:TypeId}{v:Value}{xs:List Value}(h:Own w (fun i=>B≤i) e v xs)(hB:B≤w.heap.size){news:List Value}{n m:Nat}(hn:xs.length=n)(hm:news.length=m){v' :Value}(ha:gV w 0 e v n xs news m v' w'):
  Own w' (fun i=>B≤i) e v' (xs++news)∧Fr (fun i=>B≤i) w w' :=by
 obtain ⟨h1,h2⟩:=h.appended hn hm ha;exact ⟨h1.mono fun i hi=>by rcases hi with hi|hi<;>omega,h2⟩
theorem Own.sZ {w w' :World}{F:Nat→Prop}{B:Nat}{e:TypeId}{v:Value}{xs:List Value}(h:Own w (fun i=>F i∨B≤i) e v xs)(hB:B≤w.heap.size){news:List Value}{n m:Nat}(hn:xs.length=n)(hm:news.length=m){v' :Value}(ha:gV w 0 e v n xs news m v' w'):
  Own w' (fun i=>F i∨B≤i) e v' (xs++news)∧Fr (fun i=>F i∨B≤i) w w' :=by
 obtain ⟨h1,h2⟩:=h.appended hn hm ha;refine ⟨h1.mono fun i hi=> ?_,h2⟩
 rcases hi with hi|hi
 ·exact hi
 ·exact .inr oy
theorem Fr.agx {w w1 w2:World}{F:Nat→Prop}(h:Fr F w w1)(k:Fr (fun i=>F i∨w.heap.size≤i) w1 w2):Fr F w w2:=h.trans k fun _ hi=>hi
theorem qc {w:World}{F:Nat→Prop}{e:TypeId}{A:Option Addr}{n c:Nat}{xs:List Value}(h:Own w F e (.slice A n c) xs)(hp:0<n):
  ∃b,A=some ⟨b,0,none⟩∧b<w.heap.size∧F b∧∀k,(hk:k<xs.length)→w.cell? ⟨b,k,none⟩=some xs[k]∧w.frozen? ⟨b,k,none⟩=false:=by
 obtain ⟨rfl,_⟩:=h.len;obtain ⟨g,cap,hv,_,hlt⟩:=h.1.form hp;injection hv with e1 e2 e3;subst e1 e3;refine ⟨g,rfl,hlt,h.2 g rfl,fun k hk=>⟨?_,h.1.frozenAt k⟩⟩;rw [h.1.cellAt k oy,List.getElem?_eq_getElem hk]
theorem mk1 (w:World)(cs:Array Value)(t:TypeId):∃g W,g=w.heap.size∧W=w.alloc (.cells cs t)∧Fr No w W∧W.heap.size=g+1∧Blk W g t cs:=⟨_,_,rfl,rfl,(Fr.refl No w).alloc _,by simp,Blk.new _ _ _⟩
theorem frz {a b:World}(h:Fr No a b:=by repeat (first|assumption|exact Fr.refl _ _|refine Fr.alloc ?_ _|refine Fr.drew ?_|refine Fr.drewN ?_ _)):Fr No a b:=h
theorem fry {a b:World}(h:Fr No a b:=by repeat (first|assumption|exact Fr.refl _ _|refine Fr.alloc ?_ _|refine Fr.drew ?_)):Fr No a b:=h
theorem frx {a b:World}(h:Fr No a b:=by repeat (first|exact Fr.refl _ _|refine Fr.alloc ?_ _|refine Fr.drew ?_)):Fr No a b:=h
end
section
def aA (w:World)(F:Nat→Prop)(e:TypeId)(size:Nat)(v:Value)(n:Nat)(xs:List Value):Prop:=
 w.ownsRow 0 e size v n xs∧∀g,v.ownBlock=some g→F g
def aJ (w:World)(base:Nat)(e:TypeId)(size:Nat)(v:Value)(n:Nat)(xs news:List Value)(m:Nat)(v' :Value)(w' :World):Prop:=
 w'.ownsRow base e size v' (n+m) (xs++news)∧w.grownBy w' v.ownBlock∧(v'.ownBlock=v.ownBlock∨v'.ownBlock=some w.heap.size)
section
variable {P:Program}(w:World)
theorem nR (base:Nat)(t ty e:TypeId)(i:TypeInfo)(z:Value)(size bytes:Nat)(ht:P.underlying t=some (.slice e))(hi:P.info? e=some i)(hz:i.zero=some z)
  (hsize:i.size=size) (hby:i.bytes=bytes) (hzs:z.cells.size=size) (hsz:0<size)
  (v:Value) (n:Nat) (xs:List Value) (hown:w.ownsRow base e size v n xs)
  (B:Nat) (A:Option Addr) (m c:Nat) (news:List Value) (hA:A=none→m=0) (hr:Rd w B A news) (hn:news.length=m*size) (h1:∀u∈news,u.oneCell' =true)
  (h63:n+m≤maxLen) (hbytes:((n+m)+(n+m) / 4+192)*bytes≤281474976710656) (hbase:base≤w.heap.size):
  ∃v' w',(Builtin.append_ #[t,t] ty #[v,.slice A m c]).run P w= .ok v' w'∧aJ w base e size v n xs news m v' w' :=by
 rcases A with _|ad
 ·obtain rfl:=hA rfl
  obtain rfl:news=[]:=List.eq_nil_of_length_eq_zero (by rw [hn,Nat.zero_mul]);exact ⟨v,w,gN w base t ty e i size ht hi v n xs hown c,by simpa using hown,World.grownBy.refl w _,.inl rfl⟩
 ·have hcells:∀j u,news[j]? =some u→w.cell? (ad.add j)=some u:=by
   intro j u hu;obtain ⟨hj,hu⟩:=List.getElem?_eq_some_iff.1 hu;obtain ⟨b,off,he,_,hc⟩:=hr.at_ oy;injection he with he;subst he;have:=hc j hj;have ea:(⟨b,off,none⟩:Addr).add j=⟨b,off+j,none⟩:=by unfold Addr.add;split<;>simp_all
   rw [ea,this,hu]
  obtain ⟨v',w',hrun,h2,h3,h5⟩:=jW (P:=P) w base t ty e i z size bytes ht hi hz hsize hby hzs hsz v n xs hown ad m c news hn hcells h1 h63 hbytes hbase;exact ⟨v',w',hrun,h2,h3,h5⟩
theorem jR {o:Oper}{a:Act}{K:Act→World→Prop}{Q:Exit→Act→World→Prop}(s x:Operand)(t:TypeId)
  (ho:o.op= .call {callee:= .builtin .append,args:= #[s,x],argTypes:= #[t,t]})
  (base:Nat) (e:TypeId) (i:TypeInfo) (z:Value) (size bytes:Nat) (ht:P.underlying t=some (.slice e)) (hi:P.info? e=some i) (hz:i.zero=some z)
  (hsize:i.size=size) (hby:i.bytes=bytes) (hzs:z.cells.size=size) (hsz:0<size)
  (v:Value) (n:Nat) (xs:List Value) (hs:a.eval s=v) (hown:w.ownsRow base e size v n xs)
  (B:Nat) (A:Option Addr) (m c:Nat) (news:List Value) (hx:a.eval x= .slice A m c) (hA:A=none→m=0) (hr:Rd w B A news) (hn:news.length=m*size) (h1:∀u∈news,u.oneCell' =true)
  (h63:n+m≤maxLen) (hbytes:((n+m)+(n+m) / 4+192)*bytes≤281474976710656) (hbase:base≤w.heap.size)
  (h:∀v' w',aJ w base e size v n xs news m v' w'→K (a.put o.dst v') w'):o.wp P a w K Q:=by
 obtain ⟨v',w',hrun,h2⟩:=nR (P:=P) w base t o.type e i z size bytes ht hi hz hsize hby hzs hsz v n xs hown B A m c news hA hr hn h1 h63 hbytes hbase;unfold Oper.wp execOp;simp only [ho,resolve,invoke,builtin,Sem.run_bind,Sem.run_pure,Result.andThen_ok,List.map_toArray,List.map_cons,List.map_nil,hs,hx,hrun];exact h v' w' h2
theorem aB {ops:Array Oper}{rest:List Oper}{o:Oper}{a:Act}{Q:Exit→Act→World→Prop}(hgd:Region.wanted o (yielded ops a.tmps)=true)(s x:Operand)(t:TypeId)
  (ho:o.op= .call {callee:= .builtin .append,args:= #[s,x],argTypes:= #[t,t]})
  (base:Nat) (e:TypeId) (i:TypeInfo) (z:Value) (size bytes:Nat) (ht:P.underlying t=some (.slice e)) (hi:P.info? e=some i) (hz:i.zero=some z)
  (hsize:i.size=size) (hby:i.bytes=bytes) (hzs:z.cells.size=size) (hsz:0<size)
  (v:Value) (n:Nat) (xs:List Value) (hs:a.eval s=v) (hown:w.ownsRow base e size v n xs)
  (B:Nat) (A:Option Addr) (m c:Nat) (news:List Value) (hx:a.eval x= .slice A m c) (hA:A=none→m=0) (hr:Rd w B A news) (hn:news.length=m*size) (h1:∀u∈news,u.oneCell' =true)
  (h63:n+m≤maxLen) (hbytes:((n+m)+(n+m) / 4+192)*bytes≤281474976710656) (hbase:base≤w.heap.size)
  (h:∀v' w',aJ w base e size v n xs news m v' w'→wpList P ops Q rest (a.put o.dst v') w'):wpList P ops Q (o :: rest) a w:=
 wpList_step fun _ hK=>by
  rw [if_pos hgd];exact jR w s x t ho base e i z size bytes ht hi hz hsize hby hzs hsz v n xs hs hown B A m c news hx hA hr hn h1 h63 hbytes hbase fun v' w' h2=>hK _ _ (h v' w' h2)
theorem aI {ops:Array Oper}{o:Oper}{a:Act}{K:Act→World→Prop}{Q:Exit→Act→World→Prop}{E:Prop}(hgd:o.guard=none)(s x:Operand)(t:TypeId)
  (ho:o.op= .call {callee:= .builtin .append,args:= #[s,x],argTypes:= #[t,t]})
  (base:Nat) (e:TypeId) (i:TypeInfo) (z:Value) (size bytes:Nat) (ht:P.underlying t=some (.slice e)) (hi:P.info? e=some i) (hz:i.zero=some z)
  (hsize:i.size=size) (hby:i.bytes=bytes) (hzs:z.cells.size=size) (hsz:0<size)
  (v:Value) (n:Nat) (xs:List Value) (hs:a.eval s=v) (hown:w.ownsRow base e size v n xs)
  (B:Nat) (A:Option Addr) (m c:Nat) (news:List Value) (hx:a.eval x= .slice A m c) (hA:A=none→m=0) (hr:Rd w B A news) (hn:news.length=m*size) (h1:∀u∈news,u.oneCell' =true)
  (h63:n+m≤maxLen) (hbytes:((n+m)+(n+m) / 4+192)*bytes≤281474976710656) (hbase:base≤w.heap.size)
  (h:∀v' w',aJ w base e size v n xs news m v' w'→K (a.put o.dst v') w'):
  if Region.wanted o (yielded ops a.tmps)=true then Oper.wp P o a w K Q else E:=by
 have hw:Region.wanted o (yielded ops a.tmps)=true:=by simp [Region.wanted,hgd]
 rw [if_pos hw];exact jR w s x t ho base e i z size bytes ht hi hz hsize hby hzs hsz v n xs hs hown B A m c news hx hA hr hn h1 h63 hbytes hbase h
end
section
variable {w w' :World}{F G:Nat→Prop}{e:TypeId}{size n:Nat}{v:Value}{xs:List Value}
theorem aA.lt (h:aA w F e size v n xs):∀g,v.ownBlock=some g→g<w.heap.size:=fun g hg=>(h.1.lt g hg).2
theorem aA.fr' (h:aA w F e size v n xs)(hf:Fr G w w')(hd:∀g,v.ownBlock=some g→¬G g):aA w' F e size v n xs:=by
 refine ⟨⟨h.1.1,?_⟩,h.2⟩
 rcases h.1.2 with hn|⟨g,cap,cur,rfl,hb,hgg,rest⟩
 ·exact .inl hn
 ·refine .inr ⟨g,cap,cur,rfl,hb,?_,rest⟩
  rw [hf.block g (Array.getElem?_eq_some_iff.1 hgg).1 (hd g rfl)];exact hgg
theorem aA.au (h:aA w F e size v n xs)(hf:Fr No w w'):aA w' F e size v n xs:=h.fr' hf fun _ _ hi=>hi
theorem aA.mono (h:aA w F e size v n xs)(hFG:∀i,F i→G i):aA w G e size v n xs:=⟨h.1,fun g hg=>hFG g (h.2 g hg)⟩
theorem aA.form (h:aA w F e size v n xs):∃A cap,v= .slice A n cap∧(A=none→n=0):=ay h.1
theorem aA.nil (w:World)(F:Nat→Prop)(e:TypeId)(size:Nat):aA w F e size (.slice none 0 0) 0 []:=⟨World.ownsRow_nil _ _ _ _,fun g hg=>by cases hg⟩
theorem aA.cap {A:Option Addr}{c:Nat}(h:aA w F e size (.slice A n c) n xs):n≤c∧c≤maxLen:=by
 rcases h.1.2 with ⟨hv,h0⟩|⟨g,cap,cur,hv,hb,hgg,hnc,hcm,hcs,htk⟩
 ·injection hv with e1 e2 e3
  omega
 ·injection hv with e1 e2 e3
  subst e3;exact ⟨hnc,hcm⟩
theorem aA.aW {g:Nat}{t:TypeId}{cs:Array Value}(h:aA w F e size v n xs)(hb:Blk w g t cs)(hne:e≠t):∀k,v.ownBlock=some k→k≠g:=by
 intro k hk
 rcases h.1.2 with ⟨rfl,_⟩|⟨g',cap,cur,rfl,_,hh,_⟩
 ·cases hk
 ·rintro rfl
  obtain rfl:g' =k:=by simpa [Value.ownBlock] using hk
  unfold Blk at hb;rw [hh] at hb;injection hb with hb;injection hb with _ ht;exact hne ht
theorem aA.head {A:Option Addr}{c:Nat}(h:aA w F e size (.slice A n c) n xs)(hp:0<n):
  ∃b,A=some ⟨b,0,none⟩∧b<w.heap.size∧F b∧∀k,k<xs.length→w.cell? ⟨b,k,none⟩=xs[k]? :=by
 rcases h.1.2 with ⟨hv,h0⟩|⟨g,cap,cur,hv,hb,hgg,hnc,hcm,hcs,htk⟩
 ·omega
 ·injection hv with e1 e2 e3
  subst e1 e3;refine ⟨g,rfl,(Array.getElem?_eq_some_iff.1 hgg).1,h.2 g rfl,fun k hk=> ?_⟩;rw [cell_of_row w g k cur e (0,0) hgg,←htk];have:k<n*size:=by rw [←h.1.1];exact hk
  rw [List.getElem?_take,if_pos this,Array.getElem?_toList]
theorem aA.rd {A:Option Addr}{c:Nat}(h:aA w F e size (.slice A n c) n xs):Rd w w.heap.size A xs:=by
 by_cases h0:xs=[]
 ·exact .inl h0
 ·have hx:0<xs.length:=by
   rcases xs with _|⟨x,xs⟩
   ·exact absurd rfl h0
   ·simp
  have hn:0<n:=by
   rcases Nat.eq_zero_or_pos n with rfl|hn
   ·rw [h.1.1,Nat.zero_mul] at hx;omega
   ·exact hn
  obtain ⟨b,rfl,hb,_,hc⟩:=h.head hn;exact .inr ⟨b,0,rfl,hb,fun j hj=>by rw [Nat.zero_add,hc j hj,List.getElem?_eq_getElem hj]⟩
theorem aA.appended (h:aA w F e size v n xs){news:List Value}{m:Nat}{v' :Value}(ha:aJ w 0 e size v n xs news m v' w'):
  aA w' (fun i=>F i∨(i=w.heap.size∧i<w'.heap.size)) e size v' (n+m) (xs++news)∧Fr F w w' :=by
 refine ⟨⟨ha.1,fun g hg=> ?_⟩,(Fr.refl F w).grown ha.2.1 fun k hk=> .inl (h.2 k hk)⟩
 rcases ha.2.2 with e1|e1
 ·exact .inl (h.2 g (e1.symm.trans hg))
 ·have hlt:=(ha.1.lt g hg).2
  rw [e1] at hg;injection hg with hg;exact .inr ⟨hg.symm,hlt⟩
end
end
abbrev TMq:TypeId:=318
theorem ae6:(Tryz.prog.info? TMq).map (fun i=>(i.zero,i.size,i.bytes))=some (some (.agg #[.int .i64 0,.int .i64 0,.int .i64 0,.int .i64 0,.int .i64 0,.int .i64 0,.int .i64 0,.bool false,.slice none 0 0]),9,88):=by kernel_rfl
def aar (cur:Array Value):Nat→List Value→Array Value
 |_,[]=>cur
 |o,v :: r=>aar (cur.setIfInBounds o v) (o+1) r
theorem iC:∀(vs:List Value) (cur:Array Value) (o:Nat),(aar cur o vs).size=cur.size:=by
 intro vs
 induction vs with
 |nil=>intro cur o;rfl
 |cons v r ih=>intro cur o;simp only [aar,ih,Array.size_setIfInBounds]
theorem iD:∀(vs:List Value) (cur:Array Value) (o:Nat),o+vs.length≤cur.size→(aar cur o vs).toList=cur.toList.take o++vs++cur.toList.drop (o+vs.length):=by
 intro vs
 induction vs with
 |nil=>intro cur o _;simp [aar]
 |cons v r ih=>
  intro cur o h;rw [List.length_cons] at h;simp only [aar];rw [ih _ _ (by rw [Array.size_setIfInBounds];omega),Array.toList_setIfInBounds];have hl:o<cur.toList.length:=by rw [Array.length_toList];omega
  rw [List.set_eq_take_append_cons_drop,if_pos hl];have ht:(cur.toList.take o).length=o:=by rw [List.length_take];omega
  have e1:(cur.toList.take o++v :: cur.toList.drop (o+1)).take (o+1)=cur.toList.take o++[v]:=by
   rw [List.take_append,ht,List.take_of_length_le oy,show o+1-o=1 from by omega]
   rfl
  have e2:(cur.toList.take o++v :: cur.toList.drop (o+1)).drop (o+1+r.length)=cur.toList.drop (o+(r.length+1)):=by
   rw [List.drop_append,ht,List.drop_of_length_le oy,show o+1+r.length-o=r.length+1 from by omega,List.drop_succ_cons,List.drop_drop,List.nil_append]
   congr 1
   omega
  rw [e1,e2,List.length_cons]
  simp
theorem Blk.setCells {w:World}{g:Nat}{t:TypeId}:∀(vs:List Value) (o:Nat) {w:World} {cur:Array Value},Blk w g t cur→Blk (w.setCells g o vs) g t (aar cur o vs):=by
 intro vs
 induction vs with
 |nil=>intro o w cur h;exact h
 |cons v r ih=>intro o w cur h;exact ih (o+1) (h.aC o v)
theorem Fr.setCells {F:Nat→Prop}{a:World}{g:Nat}(hg:F g∨a.heap.size≤g):∀(vs:List Value) (o:Nat) {w:World},Fr F a w→Fr F a (w.setCells g o vs):=by
 intro vs
 induction vs with
 |nil=>intro o w h;exact h
 |cons v r ih=>intro o w h;exact ih (o+1) (h.setCell (p:=⟨g,o,none⟩) hg v)
theorem jV {P:Program}(w:World)(t e ty:TypeId)(z:Value)(ht:P.underlying t=some (.slice e))(hv:∀w,(zeroValue e).run P w= .ok z w)(hp:0<z.cells.size)(h1:∀v∈z.cells.toList,v.oneCell' =true)(b o c:Nat)
  (hc:∀j,j<z.cells.size→(w.cell? ⟨b,o+j,none⟩).isSome=true) (hf:∀j,j<z.cells.size→w.frozen? ⟨b,o+j,none⟩=false):
  (Builtin.clear_ #[t] ty #[.slice (some ⟨b,o,none⟩) 1 c]).run P w= .ok (.tuple #[]) (w.setCells b o z.cells.toList):=by
 have hzc:(Builtin.zeroCells z.cells 1).toList=z.cells.toList:=by
  simp only [Builtin.zeroCells,Nat.one_mul]
  apply List.ext_getElem
  ·simp
  ·intro i h1 h2
   have hi:i<z.cells.size:=by simpa using h2
   simp [Nat.mod_eq_of_lt hi,getElem!_pos z.cells i hi]
 have hst:=run_storeCells_cells (P:=P) b o z.cells.toList 0 w (by simpa using hc) (by simpa using hf) h1;simp only [Nat.add_zero] at hst
 simp [Builtin.clear_,run_underlying ht,hv,hzc,hst]
theorem rD {P:Program}(t e:TypeId)(ht:P.underlying t=some (.slice e))(i:TypeInfo)(hi:P.info? e=some i)(g n c k:Nat)(hk:k≤c):
  ∀w:World,(Instr.slice t (.slice (some ⟨g,0,none⟩) n c) none (some (.int .i64 (k:Int))) none).run P w= .ok (.slice (some ⟨g,0,none⟩) k c) w:=by
 intro w;have he:P.elem t=e:=by simp [Program.elem,ht]
 rw [run_slice_h w t _ n c (by rw [he];exact ht) .i64 (k:Int) oy oy,he]
 simp [sizeOf,typeInfo,hi,sliced]
 intro _;unfold Addr.add
 split<;>simp_all
theorem jU {P:Program}(t e:TypeId)(ht:P.underlying t=some (.slice e))(i:TypeInfo)(hi:P.info? e=some i)(g n c k:Nat)(hk:k≤n):
  ∃ad:Addr,(∀w:World,(Instr.slice t (.slice (some ⟨g,0,none⟩) n c) (some (.int .i64 (k:Int))) none none).run P w= .ok (.slice (some ad) (n-k) (c-k)) w)∧(c≠k→ad=⟨g,k*i.size,none⟩):=by
 have he:P.elem t=e:=by simp [Program.elem,ht]
 refine ⟨if c=k then ⟨g,0,none⟩ else ⟨g,k*i.size,none⟩,fun w=> ?_,fun h=>if_neg h⟩;rw [run_slice_l w t _ n c (by rw [he];exact ht) .i64 (k:Int) oy oy,he]
 simp [sizeOf,typeInfo,hi,sliced]
 split
 ·rfl
 ·unfold Addr.add
  split<;>simp_all
theorem wm {P:Program}(t e:TypeId)(ht:P.underlying t=some (.slice e))(i:TypeInfo)(hi:P.info? e=some i)(g k c:Nat)(hk:k+1≤c):
  ∀w:World,(Instr.slice t (.slice (some ⟨g,0,none⟩) k c) (some (.int .i64 (k:Int))) (some (.int .i64 ((k+1:Nat):Int))) none).run P w= .ok (.slice (some ⟨g,k*i.size,none⟩) 1 (c-k)) w:=by
 intro w;have he:P.elem t=e:=by simp [Program.elem,ht]
 rw [run_slice_lh w t _ k c (by rw [he];exact ht) .i64 .i64 (k:Int) ((k+1:Nat):Int) oy oy oy,he]
 simp [sizeOf,typeInfo,hi,sliced]
 rw [if_neg oy];unfold Addr.add
 split<;>simp_all
theorem ajx {w:World}{F:Nat→Prop}{A:Option Addr}{c n:Nat}{xs:List Value}(h:aA w F TMq 9 (.slice A n c) n xs)(abq:∀u∈xs,u.oneCell' =true){i r:Nat}(hn:n=i+1+r):
  Calls Tryz.prog 247 #[.slice A n c,.int .i64 (i:Int),.int .i64 ((i+1:Nat):Int)] w fun e w' =>e= .returned (.slice A (i+r) c)∧aA w' F TMq 9 (.slice A (i+r) c) (i+r) (xs.take (i*9)++xs.drop ((i+1)*9))∧Fr F w w' :=by
 obtain ⟨i0,hi0,hz0,hz1,hz2⟩:=info_parts ae6;have hxl:xs.length=n*9:=h.1.1
 rcases h.1.2 with ⟨-,h0⟩|⟨g,cap,cur,hv,hb,hgg,hnc,hcm,hcs,htk⟩
 ·omega
 injection hv with e1 e2 e3;subst e1 e3;have hFg:F g:=h.2 g rfl;have ht:Tryz.prog.underlying 242=some (.slice TMq):=by kernel_rfl
 have hblk:Blk w g TMq cur:=hgg;have hcur:∀k,k<n*9→cur[k]? =xs[k]? :=fun k hk=>by rw [←htk,List.getElem?_take,if_pos hk,Array.getElem?_toList]
 obtain ⟨news,hnews⟩:∃news,news=xs.drop ((i+1)*9):=⟨_,rfl⟩;have hnl:news.length=r*9:=by rw [hnews,List.length_drop];omega
 obtain ⟨ad,hs2,had⟩:=jU 242 TMq ht i0 hi0 g n c (i+1) oy;have hs1:=rD 242 TMq ht i0 hi0 g n c i oy;have hs3:=wm 242 TMq ht i0 hi0 g (i+r) c oy;rw [hz1] at had hs3;rw [show n-(i+1)=r from by omega] at hs2;have hsrc:∀j u,news[j]? =some u→w.drew.cell? (ad.add j)=some u:=by
  intro j u hu;have hj:=(List.getElem?_eq_some_iff.1 hu).1;rw [had oy];have ea:(⟨g,(i+1)*9,none⟩:Addr).add j=⟨g,(i+1)*9+j,none⟩:=by unfold Addr.add;split<;>simp_all
  rw [ea]
  show w.cell? _=_
  rw [hblk.cell,hcur _ oy];rw [hnews,List.getElem?_drop] at hu;exact hu
 have hone:∀u∈news,u.oneCell' =true:=fun u hu=>abq u (by rw [hnews] at hu;exact List.mem_of_mem_drop hu);have hsp:∀j,j<news.length→(w.drew.cell? ⟨g,0+i*9+j,none⟩).isSome=true∧w.drew.frozen? ⟨g,0+i*9+j,none⟩=false:=by
  intro j hj;refine ⟨?_,hblk.frozen _⟩
  show (w.cell? _).isSome=true
  rw [hblk.cell,Array.getElem?_eq_getElem oy]
  rfl
 obtain ⟨W1,hW1⟩:∃W1,W1=w.drew.setCells g (0+i*9) news:=⟨_,rfl⟩;have hb1:Blk W1 g TMq (aar cur (i*9) news):=by
  rw [hW1,Nat.zero_add];exact Blk.setCells (w:=w) news (i*9) (show Blk w.drew g TMq cur from hblk)
 have hf1:Fr F w W1:=by rw [hW1];exact Fr.setCells (.inl hFg) news _ (Fr.refl F w).drew
 have hs:(aar cur (i*9) news).size=cur.size:=iC _ _ _;obtain ⟨zc,hzc⟩:∃zc:List Value,zc=(Value.cells (.agg #[.int .i64 0,.int .i64 0,.int .i64 0,.int .i64 0,.int .i64 0,.int .i64 0,.int .i64 0,.bool false,.slice none 0 0])).toList:=⟨_,rfl⟩;have hzl:zc.length=9:=by rw [hzc];rfl
 have hcl:∀ty,(Builtin.clear_ #[242] ty #[.slice (some ⟨g,(i+r)*9,none⟩) 1 (c-(i+r))]).run Tryz.prog W1= .ok (.tuple #[]) (W1.setCells g ((i+r)*9) zc):=by
  intro ty;rw [hzc];refine jV W1 _ TMq ty _ ht (fun w=>by simp [zeroValue,typeInfo,hi0,hz0]) dcd (by intro v hv;simp [Value.cells] at hv;rcases hv with rfl|rfl|rfl<;>rfl) g _ _ (fun j hj=> ?_) (fun j hj=>hb1.frozen _);have hj:j<9:=hj;rw [hb1.cell,Array.getElem?_eq_getElem oy]
  rfl
 have hfin:aA (W1.setCells g ((i+r)*9) zc) F TMq 9 (.slice (some ⟨g,0,none⟩) (i+r) c) (i+r) (xs.take (i*9)++xs.drop ((i+1)*9))∧Fr F w (W1.setCells g ((i+r)*9) zc):=by
  have hb2:=Blk.setCells (w:=w) zc ((i+r)*9) hb1;refine ⟨⟨⟨by rw [List.length_append,List.length_take,List.length_drop];omega,.inr ⟨g,c,_,rfl,Nat.zero_le _,hb2,by omega,hcm,by rw [iC,hs,hcs],?_⟩⟩,fun g' hg' =>h.2 g' hg'⟩,Fr.setCells (.inl hFg) zc _ hf1⟩;have h1:cur.toList.take (i*9)=xs.take (i*9):=by rw [←htk,List.take_take];congr 1;omega
  have hll:(cur.toList.take (i*9)++news).length=(i+r)*9:=by rw [List.length_append,List.length_take,hnl,Array.length_toList];omega
  rw [iD zc _ _ (by rw [hs,hzl];omega),iD news cur _ oy,List.append_assoc (List.take _ _),List.take_append_of_le_length (by rw [List.length_take,List.length_append,hll];omega),List.take_take,Nat.min_self,List.take_append_of_le_length oy,List.take_of_length_le oy,h1,hnews]
 obtain ⟨eu,HW1,S1,S2,S3,S4⟩:=oK hfin hW1 hsrc hone hsp hnl;clear hfin hW1 hsrc hone hsp hnl hb1 hf1 hs hzl hblk hcur hnews hgg htk hcs had h abq hxl hb;have hij:(i:Int)+1≤(n:Int):=by omega
 have awi:(n:Int)≤(c:Int):=by omega
 subst hn;have HZC:=O hzc;clear hzc;rw [show ((i+1:Nat):Int)=(i:Int)+1 from by omega] at hs2;rw [show ((i+r+1:Nat):Int)=(i:Int)+1+(r:Int) from by omega] at hs3;rw [show ((i+r:Nat):Int)=(i:Int)+(r:Int) from by omega] at hs3
 go_in
 go_wp2_with fail
 go_region_law (refine step_append_room rfl (.tmp 22) (.tmp 25) 242 rfl TMq i0 9 ht hi0 hz1 g 0 i c (by simp [Act.eval,Act.put]) ad r (c-(i+1)) news (by simp [Act.eval,Act.put]) S4.out S1.out S2.out oy S3.out ?_;rw [←HW1.out])
 go_wp2_with fail
 go_ret
 exact ⟨rfl,eu.out.1,eu.out.2⟩
def En.v (e:En):Value:= .agg #[.int .i64 e.kind,.int .i64 e.tick,.int .i64 e.bF,.int .i64 e.cell,.int .i64 e.other,.int .i64 e.epoch,.int .i64 e.from_,.int .i64 e.fE,.int .i64 e.n]
abbrev qE:TypeId:=105
theorem aU {w:World}{g:Nat}{a b c d e f x y z:Value}(h:Blk w g qE #[a,b,c,d,e,f,x,y,z]):w.cell? ⟨g,0,none⟩=some a∧w.cell? ⟨g,1,none⟩=some b∧w.cell? ⟨g,2,none⟩=some c∧w.cell? ⟨g,3,none⟩=some d∧w.cell? ⟨g,4,none⟩=some e∧w.cell? ⟨g,5,none⟩=some f∧w.cell? ⟨g,6,none⟩=some x∧w.cell? ⟨g,7,none⟩=some y∧w.cell? ⟨g,8,none⟩=some z:=
 ⟨h.cell 0,h.cell 1,h.cell 2,h.cell 3,h.cell 4,h.cell 5,h.cell 6,h.cell 7,h.cell 8⟩
end Go.Proofs.YtodkhcbjpodgeaaGreat
