/-
  Frames with footprints: which blocks a call may have turned; rows that a structure owns.
-/
import Derived.Test.YtjnfmfmglehmbaaGreatQ05
import Derived.Test.YtjnfmfmglehmbaaGreatQ00
import Derived.Laws.Rows
namespace Go.Proofs.YtjnfmfmglehmbaaGreat
open Go.ChangeShapes Go.WideShapes Go.ChangeAt Go.RowKit
set_option linter.unusedVariables false
set_option maxRecDepth 100000
set_option maxHeartbeats 4000000
section
structure Fr (F:Nat→Prop) (w w' :World):Prop where
 os:w'.os=w.os
 tape:w'.tape=w.tape
 output:w'.output=w.output
 size:w.heap.size≤w'.heap.size
 block:∀i,i<w.heap.size→¬F i→w'.heap[i]? =w.heap[i]?
abbrev No:Nat→Prop:=fun _=>False
section
variable {F G:Nat→Prop}{a w w' w'' :World}
theorem Fr.refl (F:Nat→Prop)(w:World):Fr F w w:=⟨rfl,rfl,rfl,Nat.le_refl _,fun _ _ _=>rfl⟩
theorem Fr.trans (h:Fr F w w')(k:Fr G w' w'')(hG:∀i,G i→F i∨w.heap.size≤i):Fr F w w'' :=
 ⟨k.os.trans h.os,k.tape.trans h.tape,k.output.trans h.output,Nat.le_trans h.size k.size,fun i hi hn=>
  (k.block i (nll hi h.size) (fun hg=>by
   rcases hG i hg with h1|h1
   ·exact hn h1
   ·omega)).trans (h.block i hi hn)⟩
theorem Fr.mono (h:Fr F w w')(hFG:∀i,F i→G i):Fr G w w' :=⟨h.os,h.tape,h.output,h.size,fun i hi hn=>h.block i hi fun hf=>hn (hFG i hf)⟩
theorem Fr.drew (h:Fr F a w):Fr F a w.drew:=⟨h.os,h.tape,h.output,h.size,h.block⟩
theorem Fr.drewN (h:Fr F a w)(n:Nat):Fr F a (w.drewN n):=⟨h.os,h.tape,h.output,h.size,h.block⟩
theorem Fr.alloc (h:Fr F a w)(o:Obj):Fr F a (w.alloc o):=
 ⟨h.os,h.tape,h.output,Nat.le_trans h.size (by simp),fun i hi hn=>(Below.heap_alloc w o i (nll hi h.size)).trans (h.block i hi hn)⟩
theorem Fr.setCell (h:Fr F a w){p:Addr}(hp:F p.block∨a.heap.size≤p.block)(u:Value):Fr F a (w.setCell p u):=
 ⟨h.os,h.tape,h.output,by simpa [World.setCell] using h.size,fun i hi hn=>(Below.heap_setCell w p u i (by
  rintro rfl
  rcases hp with hp|hp
  ·exact hn hp
  ·omega)).trans (h.block i hi hn)⟩
theorem Fr.grown (h:Fr F a w){row:Option Nat}(hg:w.grownBy w' row)(hr:∀k,row=some k→F k∨a.heap.size≤k):Fr F a w' :=
 ⟨hg.os.trans h.os,hg.tape.trans h.tape,hg.output.trans h.output,Nat.le_trans h.size hg.size,fun i hi hn=>
  (hg.block i (nll hi h.size) (fun e=>by
   rcases hr i e.symm with h1|h1
   ·exact hn h1
   ·omega)).trans (h.block i hi hn)⟩
theorem Fr.cell (h:Fr F w w'){p:Addr}(hp:p.block<w.heap.size)(hn:¬F p.block):w'.cell? p=w.cell? p:=World.cell?_of_block (w:=w) (h.block p.block hp hn)
theorem Fr.frozen (h:Fr F w w'){p:Addr}(hp:p.block<w.heap.size)(hn:¬F p.block):w'.frozen? p=w.frozen? p:=World.frozen?_of_block (w:=w) (h.block p.block hp hn)
theorem Fr.below (h:Fr F w w'){B:Nat}(hB:B≤w.heap.size)(hF:∀i,F i→B≤i):Below B w w' :=
 ⟨h.os,h.tape,h.output,h.size,fun i hi=>h.block i oy fun hf=>by have:=hF i hf;omega⟩
theorem Fr.rd (h:Fr F w w'){B:Nat}{A:Option Addr}{xs:List Value}(hr:Rd w B A xs)(hB:B≤w.heap.size)(hF:∀i,F i→B≤i):Rd w' B A xs:=
 hr.below (h.below hB hF)
end
def Own (w:World)(F:Nat→Prop)(e:TypeId)(v:Value)(xs:List Value):Prop:=
 w.ownsRow 0 e 1 v xs.length xs∧∀g,v.ownBlock=some g→F g
section
variable {w w' :World}{F G:Nat→Prop}{e:TypeId}{v:Value}{xs:List Value}
theorem Own.lt (h:Own w F e v xs):∀g,v.ownBlock=some g→g<w.heap.size:=fun g hg=>(h.1.lt g hg).2
theorem Own.fr' (h:Own w F e v xs)(hf:Fr G w w')(hd:∀g,v.ownBlock=some g→¬G g):Own w' F e v xs:=by
 refine ⟨⟨h.1.1,?_⟩,h.2⟩
 rcases h.1.2 with hn|⟨g,cap,cur,rfl,hb,hgg,rest⟩
 ·exact .inl hn
 ·refine .inr ⟨g,cap,cur,rfl,hb,?_,rest⟩
  rw [hf.block g (Array.getElem?_eq_some_iff.1 hgg).1 (hd g rfl)];exact hgg
theorem Own.fr (h:Own w F e v xs)(hf:Fr G w w')(hd:∀i,F i→¬G i):Own w' F e v xs:=h.fr' hf fun g hg=>hd g (h.2 g hg)
theorem Own.own (h:Own w F e v xs){n:Nat}(hn:xs.length=n):w.ownsRow 0 e 1 v n xs:=hn▸h.1
theorem Own.mono (h:Own w F e v xs)(hFG:∀i,F i→G i):Own w G e v xs:=⟨h.1,fun g hg=>hFG g (h.2 g hg)⟩
theorem Own.form (h:Own w F e v xs):∃A cap,v= .slice A xs.length cap∧(A=none→xs.length=0):=aC h.1
theorem Own.nil (w:World)(F:Nat→Prop)(e:TypeId):Own w F e (.slice none 0 0) []:=⟨World.ownsRow_nil _ _ _ _,fun g hg=>by cases hg⟩
theorem Own.rd {A:Option Addr}{n c:Nat}(h:Own w F e (.slice A n c) xs):Rd w w.heap.size A xs:=by
 have h1:=h.1;obtain ⟨A',cap',hv,_⟩:=aC h1;injection hv with e1 e2 e3;subst e1 e2 e3;exact Rd.iW h1
theorem Own.len {A:Option Addr}{n c:Nat}(h:Own w F e (.slice A n c) xs):n=xs.length∧(A=none→n=0):=by
 obtain ⟨A',cap',hv,hn⟩:=h.form;injection hv with e1 e2 e3;subst e1 e2 e3;exact ⟨rfl,hn⟩
theorem Own.appended (h:Own w F e v xs){news:List Value}{n m:Nat}(hn:xs.length=n)(hm:news.length=m){v' :Value}(ha:dV w 0 e v n xs news m v' w'):
  Own w' (fun i=>F i∨(i=w.heap.size∧i<w'.heap.size)) e v' (xs++news)∧Fr F w w' :=by
 subst hm hn;refine ⟨⟨by rw [List.length_append];exact ha.1,fun g hg=> ?_⟩,(Fr.refl F w).grown ha.2.1 fun k hk=> .inl (h.2 k hk)⟩
 rcases ha.2.2 with e1|e1
 ·exact .inl (h.2 g (e1.symm.trans hg))
 ·have hlt:=(ha.1.lt g hg).2
  rw [e1] at hg;injection hg with hg;exact .inr ⟨hg.symm,hlt⟩
theorem Own.cap {A:Option Addr}{n c:Nat}(h:Own w F e (.slice A n c) xs):n≤c∧c≤maxLen:=by
 obtain ⟨rfl,hn⟩:=h.len
 rcases h.1.2 with ⟨hv,h0⟩|⟨g,cap,cur,hv,hb,hgg,hnc,hcm,hcs,htk⟩
 ·injection hv with e1 e2 e3
  omega
 ·injection hv with e1 e2 e3
  subst e3;exact ⟨hnc,hcm⟩
theorem Own.cut {A:Option Addr}{n c k:Nat}(h:Own w F e (.slice A n c) xs)(hk:k≤n):Own w F e (.slice A k c) (xs.take k):=by
 obtain ⟨rfl,hn⟩:=h.len;have hlen:(xs.take k).length=k:=by rw [List.length_take];omega
 refine ⟨⟨by rw [hlen];omega,?_⟩,fun g hg=>h.2 g (by rcases A with _|a<;>exact hg)⟩;rw [hlen]
 rcases h.1.2 with ⟨hv,h0⟩|⟨g,cap,cur,hv,hb,hgg,hnc,hcm,hcs,htk⟩
 ·injection hv with e1 e2 e3
  subst e1 e3;obtain rfl:k=0:=by omega
  exact .inl ⟨rfl,rfl⟩
 ·injection hv with e1 e2 e3
  subst e1 e3;refine .inr ⟨g,c,cur,rfl,hb,hgg,by omega,hcm,hcs,?_⟩;rw [Nat.mul_one] at htk ⊢;rw [←htk,List.take_take]
  congr 1
  omega
end
def Blk (w:World)(g:Nat)(t:TypeId)(cs:Array Value):Prop:=w.heap[g]? =some (.cells cs t (0,0))
section
variable {w w' :World}{F:Nat→Prop}{g:Nat}{t:TypeId}{cs:Array Value}
theorem Blk.lt (h:Blk w g t cs):g<w.heap.size:=(Array.getElem?_eq_some_iff.1 h).1
theorem Blk.cell (h:Blk w g t cs)(i:Nat):w.cell? ⟨g,i,none⟩=cs[i]? :=cell_of_row w g i cs t (0,0) h
theorem Blk.frozen (h:Blk w g t cs)(i:Nat):w.frozen? ⟨g,i,none⟩=false:=by
 unfold Blk at h
 simp [World.frozen?,h]
theorem Blk.new (w:World)(t:TypeId)(cs:Array Value):Blk (w.alloc (.cells cs t)) w.heap.size t cs:=heap_alloc_new w _
theorem Blk.fr (h:Blk w g t cs)(hf:Fr F w w')(hn:¬F g):Blk w' g t cs:=(hf.block g h.lt hn).trans h
theorem Blk.aU (h:Blk w g t cs)(i:Nat)(u:Value):Blk (w.setCell ⟨g,i,none⟩ u) g t (cs.setIfInBounds i u):=by
 unfold Blk at h ⊢
 simp [World.setCell,Array.getElem?_modify,h]
theorem dx (w:World)(p:Addr)(u:Value):Fr (fun i=>i=p.block) w (w.setCell p u):=(Fr.refl (fun i=>i=p.block) w).setCell (p:=p) (.inl rfl) u
theorem Own.fT {e:TypeId}{v:Value}{xs:List Value}(h:Own w F e v xs)(hb:Blk w g t cs)(hne:e≠t):∀k,v.ownBlock=some k→k≠g:=by
 intro k hk
 rcases h.1.2 with ⟨rfl,_⟩|⟨g',cap,cur,rfl,_,hh,_⟩
 ·cases hk
 ·rintro rfl
  obtain rfl:g' =k:=by simpa [Value.ownBlock] using hk
  unfold Blk at hb;rw [hh] at hb;injection hb with hb;injection hb with _ ht;exact hne ht
end
theorem Rd.new (w:World)(cs:List Value)(t:TypeId){xs:List Value}(h:cs=xs):Rd (w.alloc (.cells cs.toArray t)) (w.heap.size+1) (some ⟨w.heap.size,0,none⟩) xs:=by
 subst h;refine .inr ⟨_,0,rfl,by omega,fun j hj=> ?_⟩;rw [(Blk.new w t cs.toArray).cell,Nat.zero_add]
 simp [List.getElem?_eq_getElem hj]
theorem Rd.fr {w w' :World}{F:Nat→Prop}{B:Nat}{A:Option Addr}{xs:List Value}(hr:Rd w B A xs)(h:Fr F w w')(hB:B≤w.heap.size)(hF:∀i,F i→B≤i):Rd w' B A xs:=h.rd hr hB hF
theorem Rd.ak {w w' :World}{B:Nat}{A:Option Addr}{xs:List Value}(hr:Rd w B A xs)(h:Fr No w w')(hB:B≤w.heap.size):Rd w' B A xs:=h.rd hr hB fun _ hi=>hi.elim
theorem Own.ak {w w' :World}{F:Nat→Prop}{e:TypeId}{v:Value}{xs:List Value}(h:Own w F e v xs)(hf:Fr No w w'):Own w' F e v xs:=h.fr hf fun _ _ hi=>hi
theorem aj (w:World)(o:Obj):Fr No w (w.alloc o):=(Fr.refl _ _).alloc o
theorem Fr.ah {w w' w'' :World}(h:Fr No w w')(k:Fr No w' w''):Fr No w w'' :=h.trans k fun _ hi=>hi.elim
theorem Fr.aA {w w' w'' :World}{F:Nat→Prop}(h:Fr No w w')(k:Fr F w' w'')(hF:∀i,F i→w.heap.size≤i):Fr No w w'' :=h.trans k fun i hi=> .inr (hF i hi)
theorem Fr.jd {w w' :World}(h:Fr No w w'):Below w.heap.size w w' :=h.below (Nat.le_refl _) fun _ hi=>hi.elim
theorem Own.made (w:World)(e:TypeId):Own (w.alloc (.cells #[] e)) (fun i=>w.heap.size≤i) e (.slice (some ⟨w.heap.size,0,none⟩) 0 0) []:=
 ⟨World.ownsRow_made w #[] 0 (Nat.zero_le _) (Nat.zero_le _) rfl,fun g hg=>by simp [Value.ownBlock] at hg;omega⟩
theorem Own.aT {w w' :World}{B:Nat}{e:TypeId}{v:Value}{xs:List Value}(h:Own w (fun i=>B≤i) e v xs)(hB:B≤w.heap.size){news:List Value}{n m:Nat}(hn:xs.length=n)(hm:news.length=m){v' :Value}(ha:dV w 0 e v n xs news m v' w'):
  Own w' (fun i=>B≤i) e v' (xs++news)∧Fr (fun i=>B≤i) w w' :=by
 obtain ⟨h1,h2⟩:=h.appended hn hm ha;exact ⟨h1.mono fun i hi=>by rcases hi with hi|hi<;>omega,h2⟩
theorem Own.wH {w w' :World}{F:Nat→Prop}{B:Nat}{e:TypeId}{v:Value}{xs:List Value}(h:Own w (fun i=>F i∨B≤i) e v xs)(hB:B≤w.heap.size){news:List Value}{n m:Nat}(hn:xs.length=n)(hm:news.length=m){v' :Value}(ha:dV w 0 e v n xs news m v' w'):
  Own w' (fun i=>F i∨B≤i) e v' (xs++news)∧Fr (fun i=>F i∨B≤i) w w' :=by
 obtain ⟨h1,h2⟩:=h.appended hn hm ha;refine ⟨h1.mono fun i hi=> ?_,h2⟩
 rcases hi with hi|hi
 ·exact hi
 ·exact .inr oy
theorem Fr.ag5 {w w1 w2:World}{F:Nat→Prop}(h:Fr F w w1)(k:Fr (fun i=>F i∨w.heap.size≤i) w1 w2):Fr F w w2:=h.trans k fun _ hi=>hi
theorem Own.copied {w W w1:World}{e:TypeId}{news:List Value}{m:Nat}{v' :Value}(happ:dV W 0 e (.slice (some ⟨w.heap.size,0,none⟩) 0 0) 0 [] news m v' w1)(hW:W.heap=(w.alloc (.cells #[] e)).heap)(hm:news.length=m):
  Own w1 (fun i=>w.heap.size≤i) e v' news∧Fr (fun i=>w.heap.size≤i) W w1:=by
 have ho:Own W (fun i=>w.heap.size≤i) e (.slice (some ⟨w.heap.size,0,none⟩) 0 0) []:=by
  have:=Own.made w e;unfold Own World.ownsRow at this ⊢
  rwa [hW]
 have:=ho.aT (by rw [hW];simp) rfl hm happ
 rwa [List.nil_append] at this
theorem iV {w:World}{F:Nat→Prop}{e:TypeId}{A:Option Addr}{n c:Nat}{xs:List Value}(h:Own w F e (.slice A n c) xs)(hp:0<n):
  ∃b,A=some ⟨b,0,none⟩∧b<w.heap.size∧F b∧∀k,(hk:k<xs.length)→w.cell? ⟨b,k,none⟩=some xs[k]∧w.frozen? ⟨b,k,none⟩=false:=by
 obtain ⟨rfl,_⟩:=h.len;obtain ⟨g,cap,hv,_,hlt⟩:=h.1.form hp;injection hv with e1 e2 e3;subst e1 e3;refine ⟨g,rfl,hlt,h.2 g rfl,fun k hk=>⟨?_,h.1.frozenAt k⟩⟩;rw [h.1.cellAt k oy,List.getElem?_eq_getElem hk]
theorem nM {w:World}{F:Nat→Prop}{e:TypeId}{b n c:Nat}{xs:List Value}(h:Own w F e (.slice (some ⟨b,0,none⟩) n c) xs)(k:Nat)(u:Value):
  Own (w.setCell ⟨b,k,none⟩ u) F e (.slice (some ⟨b,0,none⟩) n c) (xs.set k u)∧Fr F w (w.setCell ⟨b,k,none⟩ u):=by
 obtain ⟨rfl,_⟩:=h.len;refine ⟨⟨?_,h.2⟩,(Fr.refl F w).setCell (p:=⟨b,k,none⟩) (.inl (h.2 b rfl)) u⟩;have:=(h.1.stored k u).1
 rwa [List.length_set]
theorem frz {a b:World}(h:Fr No a b:=by repeat (first|assumption|exact Fr.refl _ _|refine Fr.alloc ?_ _|refine Fr.drew ?_|refine Fr.drewN ?_ _)):Fr No a b:=h
theorem fry {a b:World}(h:Fr No a b:=by repeat (first|assumption|exact Fr.refl _ _|refine Fr.alloc ?_ _|refine Fr.drew ?_)):Fr No a b:=h
theorem frx {a b:World}(h:Fr No a b:=by repeat (first|exact Fr.refl _ _|refine Fr.alloc ?_ _|refine Fr.drew ?_)):Fr No a b:=h
end
def En.v (e:En):Value:= .agg #[.int .i64 e.kind,.int .i64 e.tick,.int .i64 e.aS,.int .i64 e.cell,.int .i64 e.other,.int .i64 e.epoch,.int .i64 e.from_,.int .i64 e.bA,.int .i64 e.n]
abbrev dR:TypeId:=49
theorem aB {w:World}{g:Nat}{a b c d e f x y z:Value}(h:Blk w g dR #[a,b,c,d,e,f,x,y,z]):w.cell? ⟨g,0,none⟩=some a∧w.cell? ⟨g,1,none⟩=some b∧w.cell? ⟨g,2,none⟩=some c∧w.cell? ⟨g,3,none⟩=some d∧w.cell? ⟨g,4,none⟩=some e∧w.cell? ⟨g,5,none⟩=some f∧w.cell? ⟨g,6,none⟩=some x∧w.cell? ⟨g,7,none⟩=some y∧w.cell? ⟨g,8,none⟩=some z:=
 ⟨h.cell 0,h.cell 1,h.cell 2,h.cell 3,h.cell 4,h.cell 5,h.cell 6,h.cell 7,h.cell 8⟩
theorem pI {w:World}{g:Nat}{t:TypeId}{cs:Array Value}(h:Blk w g t cs):Blk w.drew g t cs:=h
section
def bG (w:World)(F:Nat→Prop)(e:TypeId)(size:Nat)(v:Value)(n:Nat)(xs:List Value):Prop:=
 w.ownsRow 0 e size v n xs∧∀g,v.ownBlock=some g→F g
def bN (w:World)(base:Nat)(e:TypeId)(size:Nat)(v:Value)(n:Nat)(xs news:List Value)(m:Nat)(v' :Value)(w' :World):Prop:=
 w'.ownsRow base e size v' (n+m) (xs++news)∧w.grownBy w' v.ownBlock∧(v'.ownBlock=v.ownBlock∨v'.ownBlock=some w.heap.size)
section
variable {P:Program}(w:World)
theorem rD (base:Nat)(t ty e:TypeId)(i:TypeInfo)(z:Value)(size bytes:Nat)(ht:P.underlying t=some (.slice e))(hi:P.info? e=some i)(hz:i.zero=some z)
  (hsize:i.size=size) (hby:i.bytes=bytes) (hzs:z.cells.size=size) (hsz:0<size)
  (v:Value) (n:Nat) (xs:List Value) (hown:w.ownsRow base e size v n xs)
  (B:Nat) (A:Option Addr) (m c:Nat) (news:List Value) (hA:A=none→m=0) (hr:Rd w B A news) (hn:news.length=m*size) (h1:∀u∈news,u.oneCell' =true)
  (h63:n+m≤maxLen) (hbytes:((n+m)+(n+m) / 4+192)*bytes≤281474976710656) (hbase:base≤w.heap.size):
  ∃v' w',(Builtin.append_ #[t,t] ty #[v,.slice A m c]).run P w= .ok v' w'∧bN w base e size v n xs news m v' w' :=by
 rcases A with _|ad
 ·obtain rfl:=hA rfl
  obtain rfl:news=[]:=List.eq_nil_of_length_eq_zero (by rw [hn,Nat.zero_mul]);exact ⟨v,w,iU w base t ty e i size ht hi v n xs hown c,by simpa using hown,World.grownBy.refl w _,.inl rfl⟩
 ·have hcells:∀j u,news[j]? =some u→w.cell? (ad.add j)=some u:=by
   intro j u hu;obtain ⟨hj,hu⟩:=List.getElem?_eq_some_iff.1 hu;obtain ⟨b,off,he,_,hc⟩:=hr.at_ oy;injection he with he;subst he;have:=hc j hj;have ea:(⟨b,off,none⟩:Addr).add j=⟨b,off+j,none⟩:=by unfold Addr.add;split<;>simp_all
   rw [ea,this,hu]
  obtain ⟨v',w',hrun,h2,h3,h5⟩:=mM (P:=P) w base t ty e i z size bytes ht hi hz hsize hby hzs hsz v n xs hown ad m c news hn hcells h1 h63 hbytes hbase;exact ⟨v',w',hrun,h2,h3,h5⟩
theorem mJ {o:Oper}{a:Act}{K:Act→World→Prop}{Q:Exit→Act→World→Prop}(s x:Operand)(t:TypeId)
  (ho:o.op= .call {callee:= .builtin .append,args:= #[s,x],argTypes:= #[t,t]})
  (base:Nat) (e:TypeId) (i:TypeInfo) (z:Value) (size bytes:Nat) (ht:P.underlying t=some (.slice e)) (hi:P.info? e=some i) (hz:i.zero=some z)
  (hsize:i.size=size) (hby:i.bytes=bytes) (hzs:z.cells.size=size) (hsz:0<size)
  (v:Value) (n:Nat) (xs:List Value) (hs:a.eval s=v) (hown:w.ownsRow base e size v n xs)
  (B:Nat) (A:Option Addr) (m c:Nat) (news:List Value) (hx:a.eval x= .slice A m c) (hA:A=none→m=0) (hr:Rd w B A news) (hn:news.length=m*size) (h1:∀u∈news,u.oneCell' =true)
  (h63:n+m≤maxLen) (hbytes:((n+m)+(n+m) / 4+192)*bytes≤281474976710656) (hbase:base≤w.heap.size)
  (h:∀v' w',bN w base e size v n xs news m v' w'→K (a.put o.dst v') w'):o.wp P a w K Q:=by
 obtain ⟨v',w',hrun,h2⟩:=rD (P:=P) w base t o.type e i z size bytes ht hi hz hsize hby hzs hsz v n xs hown B A m c news hA hr hn h1 h63 hbytes hbase;unfold Oper.wp execOp;simp only [ho,resolve,invoke,builtin,Sem.run_bind,Sem.run_pure,Result.andThen_ok,List.map_toArray,List.map_cons,List.map_nil,hs,hx,hrun];exact h v' w' h2
theorem bK {ops:Array Oper}{rest:List Oper}{o:Oper}{a:Act}{Q:Exit→Act→World→Prop}(hgd:Region.wanted o (yielded ops a.tmps)=true)(s x:Operand)(t:TypeId)
  (ho:o.op= .call {callee:= .builtin .append,args:= #[s,x],argTypes:= #[t,t]})
  (base:Nat) (e:TypeId) (i:TypeInfo) (z:Value) (size bytes:Nat) (ht:P.underlying t=some (.slice e)) (hi:P.info? e=some i) (hz:i.zero=some z)
  (hsize:i.size=size) (hby:i.bytes=bytes) (hzs:z.cells.size=size) (hsz:0<size)
  (v:Value) (n:Nat) (xs:List Value) (hs:a.eval s=v) (hown:w.ownsRow base e size v n xs)
  (B:Nat) (A:Option Addr) (m c:Nat) (news:List Value) (hx:a.eval x= .slice A m c) (hA:A=none→m=0) (hr:Rd w B A news) (hn:news.length=m*size) (h1:∀u∈news,u.oneCell' =true)
  (h63:n+m≤maxLen) (hbytes:((n+m)+(n+m) / 4+192)*bytes≤281474976710656) (hbase:base≤w.heap.size)
  (h:∀v' w',bN w base e size v n xs news m v' w'→wpList P ops Q rest (a.put o.dst v') w'):wpList P ops Q (o :: rest) a w:=
 wpList_step fun _ hK=>by
  rw [if_pos hgd];exact mJ w s x t ho base e i z size bytes ht hi hz hsize hby hzs hsz v n xs hs hown B A m c news hx hA hr hn h1 h63 hbytes hbase fun v' w' h2=>hK _ _ (h v' w' h2)
theorem bf {ops:Array Oper}{o:Oper}{a:Act}{K:Act→World→Prop}{Q:Exit→Act→World→Prop}{E:Prop}(hgd:o.guard=none)(s x:Operand)(t:TypeId)
  (ho:o.op= .call {callee:= .builtin .append,args:= #[s,x],argTypes:= #[t,t]})
  (base:Nat) (e:TypeId) (i:TypeInfo) (z:Value) (size bytes:Nat) (ht:P.underlying t=some (.slice e)) (hi:P.info? e=some i) (hz:i.zero=some z)
  (hsize:i.size=size) (hby:i.bytes=bytes) (hzs:z.cells.size=size) (hsz:0<size)
  (v:Value) (n:Nat) (xs:List Value) (hs:a.eval s=v) (hown:w.ownsRow base e size v n xs)
  (B:Nat) (A:Option Addr) (m c:Nat) (news:List Value) (hx:a.eval x= .slice A m c) (hA:A=none→m=0) (hr:Rd w B A news) (hn:news.length=m*size) (h1:∀u∈news,u.oneCell' =true)
  (h63:n+m≤maxLen) (hbytes:((n+m)+(n+m) / 4+192)*bytes≤281474976710656) (hbase:base≤w.heap.size)
  (h:∀v' w',bN w base e size v n xs news m v' w'→K (a.put o.dst v') w'):
  if Region.wanted o (yielded ops a.tmps)=true then Oper.wp P o a w K Q else E:=by
 have hw:Region.wanted o (yielded ops a.tmps)=true:=by simp [Region.wanted,hgd]
 rw [if_pos hw];exact mJ w s x t ho base e i z size bytes ht hi hz hsize hby hzs hsz v n xs hs hown B A m c news hx hA hr hn h1 h63 hbytes hbase h
end
section
variable {w w' :World}{F G:Nat→Prop}{e:TypeId}{size n:Nat}{v:Value}{xs:List Value}
theorem bG.lt (h:bG w F e size v n xs):∀g,v.ownBlock=some g→g<w.heap.size:=fun g hg=>(h.1.lt g hg).2
theorem bG.fr' (h:bG w F e size v n xs)(hf:Fr G w w')(hd:∀g,v.ownBlock=some g→¬G g):bG w' F e size v n xs:=by
 refine ⟨⟨h.1.1,?_⟩,h.2⟩
 rcases h.1.2 with hn|⟨g,cap,cur,rfl,hb,hgg,rest⟩
 ·exact .inl hn
 ·refine .inr ⟨g,cap,cur,rfl,hb,?_,rest⟩
  rw [hf.block g (Array.getElem?_eq_some_iff.1 hgg).1 (hd g rfl)];exact hgg
theorem bG.ak (h:bG w F e size v n xs)(hf:Fr No w w'):bG w' F e size v n xs:=h.fr' hf fun _ _ hi=>hi
theorem bG.mono (h:bG w F e size v n xs)(hFG:∀i,F i→G i):bG w G e size v n xs:=⟨h.1,fun g hg=>hFG g (h.2 g hg)⟩
theorem bG.form (h:bG w F e size v n xs):∃A cap,v= .slice A n cap∧(A=none→n=0):=aC h.1
theorem bG.nil (w:World)(F:Nat→Prop)(e:TypeId)(size:Nat):bG w F e size (.slice none 0 0) 0 []:=⟨World.ownsRow_nil _ _ _ _,fun g hg=>by cases hg⟩
theorem bG.cap {A:Option Addr}{c:Nat}(h:bG w F e size (.slice A n c) n xs):n≤c∧c≤maxLen:=by
 rcases h.1.2 with ⟨hv,h0⟩|⟨g,cap,cur,hv,hb,hgg,hnc,hcm,hcs,htk⟩
 ·injection hv with e1 e2 e3
  omega
 ·injection hv with e1 e2 e3
  subst e3;exact ⟨hnc,hcm⟩
theorem bG.cut {A:Option Addr}{c k:Nat}(h:bG w F e size (.slice A n c) n xs)(hk:k≤n):bG w F e size (.slice A k c) k (xs.take (k*size)):=by
 have hle:k*size≤n*size:=Nat.mul_le_mul_right _ hk;refine ⟨⟨by rw [List.length_take,h.1.1];omega,?_⟩,fun g hg=>h.2 g (by rcases A with _|a<;>exact hg)⟩
 rcases h.1.2 with ⟨hv,h0⟩|⟨g,cap,cur,hv,hb,hgg,hnc,hcm,hcs,htk⟩
 ·injection hv with e1 e2 e3
  subst e1 e3;obtain rfl:k=0:=by omega
  exact .inl ⟨rfl,rfl⟩
 ·injection hv with e1 e2 e3
  subst e1 e3;refine .inr ⟨g,c,cur,rfl,hb,hgg,by omega,hcm,hcs,?_⟩;rw [←htk,List.take_take]
  congr 1
  omega
theorem bG.fT {g:Nat}{t:TypeId}{cs:Array Value}(h:bG w F e size v n xs)(hb:Blk w g t cs)(hne:e≠t):∀k,v.ownBlock=some k→k≠g:=by
 intro k hk
 rcases h.1.2 with ⟨rfl,_⟩|⟨g',cap,cur,rfl,_,hh,_⟩
 ·cases hk
 ·rintro rfl
  obtain rfl:g' =k:=by simpa [Value.ownBlock] using hk
  unfold Blk at hb;rw [hh] at hb;injection hb with hb;injection hb with _ ht;exact hne ht
theorem bG.head {A:Option Addr}{c:Nat}(h:bG w F e size (.slice A n c) n xs)(hp:0<n):
  ∃b,A=some ⟨b,0,none⟩∧b<w.heap.size∧F b∧∀k,k<xs.length→w.cell? ⟨b,k,none⟩=xs[k]? :=by
 rcases h.1.2 with ⟨hv,h0⟩|⟨g,cap,cur,hv,hb,hgg,hnc,hcm,hcs,htk⟩
 ·omega
 ·injection hv with e1 e2 e3
  subst e1 e3;refine ⟨g,rfl,(Array.getElem?_eq_some_iff.1 hgg).1,h.2 g rfl,fun k hk=> ?_⟩;rw [cell_of_row w g k cur e (0,0) hgg,←htk];have:k<n*size:=by rw [←h.1.1];exact hk
  rw [List.getElem?_take,if_pos this,Array.getElem?_toList]
theorem bG.rd {A:Option Addr}{c:Nat}(h:bG w F e size (.slice A n c) n xs):Rd w w.heap.size A xs:=by
 by_cases h0:xs=[]
 ·exact .inl h0
 ·have hx:0<xs.length:=by
   rcases xs with _|⟨x,xs⟩
   ·exact absurd rfl h0
   ·simp
  have hn:0<n:=by
   rcases Nat.eq_zero_or_pos n with rfl|hn
   ·rw [h.1.1,Nat.zero_mul] at hx;omega
   ·exact hn
  obtain ⟨b,rfl,hb,_,hc⟩:=h.head hn;exact .inr ⟨b,0,rfl,hb,fun j hj=>by rw [Nat.zero_add,hc j hj,List.getElem?_eq_getElem hj]⟩
theorem bG.appended (h:bG w F e size v n xs){news:List Value}{m:Nat}{v' :Value}(ha:bN w 0 e size v n xs news m v' w'):
  bG w' (fun i=>F i∨(i=w.heap.size∧i<w'.heap.size)) e size v' (n+m) (xs++news)∧Fr F w w' :=by
 refine ⟨⟨ha.1,fun g hg=> ?_⟩,(Fr.refl F w).grown ha.2.1 fun k hk=> .inl (h.2 k hk)⟩
 rcases ha.2.2 with e1|e1
 ·exact .inl (h.2 g (e1.symm.trans hg))
 ·have hlt:=(ha.1.lt g hg).2
  rw [e1] at hg;injection hg with hg;exact .inr ⟨hg.symm,hlt⟩
end
end
end Go.Proofs.YtjnfmfmglehmbaaGreat
