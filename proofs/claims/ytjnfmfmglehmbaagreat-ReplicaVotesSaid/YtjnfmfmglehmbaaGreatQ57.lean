/-
  The walk of ReplicaStores.
-/
import Derived.Test.YtjnfmfmglehmbaaGreatQ55
import Derived.Test.YtjnfmfmglehmbaaGreatQ49
import Derived.Test.YtjnfmfmglehmbaaGreatQ29
import Derived.Test.YtjnfmfmglehmbaaGreatQ56
namespace Go.Proofs.YtjnfmfmglehmbaaGreat
open Go.ChangeShapes Go.WideShapes Go.ChangeAt Go.RowKit
set_option linter.unusedVariables false
set_option maxRecDepth 100000
set_option maxHeartbeats 4000000
def lgs (t:Int)(q:List Int):List Lg:=q.map fun x=>⟨t,bE (x % 1000)⟩
def m1 (q:List Int):Ms:=⟨3,0,1,1,0,0,0,false,lgs 1 q⟩
def m2 (k:Nat)(q:List Int):Ms:=⟨3,2,1,2,k,(min k 1:Nat),k,false,lgs 2 q⟩
theorem Ent.own {w:World}{F:Nat→Prop}{A:Option Addr}{n c:Nat}{l:List Lg}(h:bG w F TLg 10 (.slice A n c) n (dD l))(hl:l.length=n):Ent w F (.slice A l.length c) l:=by
 subst hl;exact Ent.iW h
section
def PA (w:World)(H:Nat→Prop)(p q:Nat)(r:Rs)(n:Nat):Prop:=
 ∃F G,RAt w F p r n∧bR w G q r n∧(∀i,F i→¬G i)∧(∀i,F i→H i)∧(∀i,G i→H i)∧∀i,H i→i<w.heap.size
def nE (w:World)(H:Nat→Prop)(p q:Nat)(r:Rs)(n:Nat)(w' :World):Prop:=∃H',PA w' H' p q r n∧(∀i,H' i→H i∨w.heap.size≤i)∧Fr H w w'
section
variable {w w' w1 w2 W:World}{F G H K:Nat→Prop}{p q n m:Nat}{r r' :Rs}{x:Rs×List Ms}{A B:Option Addr}{c d:Nat}{e:Ending}
theorem PA.fr (h:PA w H p q r n)(hf:Fr K w w')(hd:∀i,H i→¬K i):PA w' H p q r n:=by
 obtain ⟨F,G,h1,h2,h3,h4,h5,h6⟩:=h;exact ⟨F,G,h1.fr hf fun i hi=>hd i (h4 i hi),h2.fr hf fun i hi=>hd i (h5 i hi),h3,h4,h5,fun i hi=>nll (h6 i hi) hf.size⟩
theorem PA.ak (h:PA w H p q r n)(hf:Fr No w w'):PA w' H p q r n:=h.fr hf fun _ _ hi=>hi
theorem PA.lt (h:PA w H p q r n):∀i,H i→i<w.heap.size:=let ⟨_,_,_,_,_,_,_,h6⟩:=h;h6
theorem PA.ok (h:PA w H p q r n):bU r:=let ⟨_,_,h1,_⟩:=h;h1.ok
theorem PA.more (h:PA w H p q r n)(hn:n≤m):PA w H p q r m:=by
 obtain ⟨F,G,h1,h2,h3⟩:=h;exact ⟨F,G,h1.more hn,h2.more hn,h3⟩
theorem PA.still (h:PA w H p q r n)(hf:Fr No w w'):nE w H p q r n w' :=⟨H,h.ak hf,fun _ hi=> .inl hi,hf.mono fun _ hi=>hi.elim⟩
theorem nE.more (h:nE w H p q r n w')(hn:n≤m):nE w H p q r m w' :=by
 obtain ⟨H',h1,h2⟩:=h;exact ⟨H',h1.more hn,h2⟩
theorem nE.trans (h:nE w H p q r n w1)(h2:∀H',PA w1 H' p q r n→nE w1 H' p q r' m w'):nE w H p q r' m w' :=by
 obtain ⟨F1,h3,h4,h5⟩:=h;obtain ⟨F2,g3,g4,g5⟩:=h2 F1 h3;refine ⟨F2,g3,fun i hi=> ?_,h5.trans g5 h4⟩
 rcases g4 i hi with h|h
 ·exact h4 i h
 ·exact .inr (Nat.le_trans h5.size h)
theorem nE.quiet (h:nE w H p q r n w1)(hf:Fr No w1 w'):nE w H p q r n w' :=h.trans fun _ h=>h.still hf
theorem nE.after (hf:Fr No w w1)(h:nE w1 H p q r n w'):nE w H p q r n w' :=by
 obtain ⟨H',h1,h2,h3⟩:=h;exact ⟨H',h1,fun i hi=>(h2 i hi).imp id (Nat.le_trans hf.size),(hf.mono (G:=H) fun _ hi=>hi.elim).trans h3 fun i hi=> .inl hi⟩
theorem nE.own {w0:World}(h:nE w1 H p q r n w')(hf:Fr No w0 w1)(hN:∀i,H i→w0.heap.size≤i):∃H',PA w' H' p q r n∧(∀i,H' i→w0.heap.size≤i)∧Fr No w0 w' :=by
 obtain ⟨H',g1,g2,g3⟩:=h;exact ⟨H',g1,fun i hi=>(g2 i hi).elim (fun h=>hN i h) (fun h=>Nat.le_trans hf.size h),hf.aA g3 hN⟩
structure Hf (w:World) (H:Nat→Prop) (p q:Nat) (r r' :Rs) (n m:Nat) (F G:Nat→Prop) (w1:World):Prop where
 pr:RAt w1 F p r' m
 rf:bR w1 G q r n
 ap:∀i,F i→¬G i
 gl:∀i,G i→i<w.heap.size
 fh:∀i,F i→H i∨w.heap.size≤i
 gh:∀i,G i→H i
 hl:∀i,H i→i<w.heap.size
 fr:Fr H w w1
theorem Hf.of {F' :Nat→Prop}(h1:RAt w F p r n)(h2:bR w G q r n)(h3:∀i,F i→¬G i)(h4:∀i,F i→H i)(h5:∀i,G i→H i)(h6:∀i,H i→i<w.heap.size)(hf:Fr No w W)(g1:RAt w1 F' p r' m)(g2:∀i,F' i→F i∨W.heap.size≤i)(g3:Fr F W w1):Hf w H p q r r' n m F' G w1:=
 ⟨g1,(h2.ak hf).fr g3 fun i hg hF=>h3 i hF hg,fun i hi hg=>(g2 i hi).elim (fun k=>h3 i k hg) (fun k=>by have:=h2.lt i hg;have:=hf.size;omega),h2.lt,fun i hi=>(g2 i hi).imp (h4 i) (Nat.le_trans hf.size),h5,h6,(hf.mono (G:=H) fun _ h=>h.elim).trans g3 fun i hi=> .inl (h4 i hi)⟩
theorem Hf.ak (h:Hf w H p q r r' n m F G w1)(hf:Fr No w1 W):Hf w H p q r r' n m F G W:=⟨h.pr.ak hf,h.rf.ak hf,h.ap,h.gl,h.fh,h.gh,h.hl,h.fr.trans hf fun _ h=>h.elim⟩
theorem Hf.fin (h:Hf w H p q r r' n m F G w1){G' :Nat→Prop}(g1:bR w2 G' q r' m)(g2:∀i,G' i→G i∨w1.heap.size≤i)(g3:Fr G w1 w2):nE w H p q r' m w2:=by
 have hp:=h.pr.fr g3 h.ap;have hs:=h.fr.size;refine ⟨fun i=>(H i∨w.heap.size≤i)∧i<w2.heap.size,⟨F,G',hp,g1,fun i hi hg=> ?_,fun i hi=>⟨h.fh i hi,hp.lt i hi⟩,fun i hi=>⟨?_,g1.lt i hi⟩,fun i hi=>hi.2⟩,fun i hi=>hi.1,h.fr.trans g3 fun i hi=> .inl (h.gh i hi)⟩
 ·rcases g2 i hg with k|k
  ·exact h.ap i hi k
  ·have:=h.pr.lt i hi;omega
 ·rcases g2 i hi with k|k
  ·exact .inl (h.gh i k)
  ·exact .inr oy
theorem bF.lt {M:Nat→Prop}{v:Value}{ms:List Ms}(h:bF w M v ms):bF w (fun i=>M i∧i<w.heap.size) v ms:=by
 obtain ⟨Gs,Ge,vs,h1,h2,h3⟩:=h;exact ⟨Gs,Ge,vs,h1,fun i hi=>⟨h2 i hi,h1.ltS i hi⟩,fun i hi=>⟨h3 i hi,h1.ltE i hi⟩⟩
def Hf1 (w:World)(H:Nat→Prop)(p q:Nat)(r:Rs)(n:Nat)(x:Rs×List Ms)(m:Nat)(A:Option Addr)(c:Nat)(w1:World):Prop:=
 ∃F G M,Hf w H p q r x.1 n m F G w1∧bF w1 M (.slice A x.2.length c) x.2∧∀i,M i→w.heap.size≤i
def Hf2 (w:World)(H:Nat→Prop)(p q:Nat)(x:Rs×List Ms)(m:Nat)(A:Option Addr)(c:Nat)(B:Option Addr)(d:Nat)(w2:World):Prop:=
 nE w H p q x.1 m w2∧(∃M,bF w2 M (.slice A x.2.length c) x.2)∧∃M,bF w2 M (.slice B x.2.length d) x.2
theorem Hf1.of (h1:RAt w F p r n)(h2:bR w G q r n)(h3:∀i,F i→¬G i)(h4:∀i,F i→H i)(h5:∀i,G i→H i)(h6:∀i,H i→i<w.heap.size)(hf:Fr No w W)(hc:aQ W F p x m e w1):∃A c,e= .returned (.slice A x.2.length c)∧Hf1 w H p q r n x m A c w1:=by
 obtain ⟨A,c,F',M,rfl,hm,hp,i1,i2,i3,f⟩:=hc;exact ⟨A,c,rfl,F',G,M,Hf.of h1 h2 h3 h4 h5 h6 hf hp i1 f,hm,fun i hi=>Nat.le_trans hf.size (i2 i hi)⟩
theorem Hf1.fin {M:Nat→Prop}(h:Hf w H p q r x.1 n m F G w1)(hm:bF w1 M (.slice A x.2.length c) x.2)(hM:∀i,M i→w.heap.size≤i)(hf:Fr No w1 W)(hc:aH W G q x m e w2):∃B d,e= .returned (.slice B x.2.length d)∧Hf2 w H p q x m A c B d w2:=by
 obtain ⟨B,d,G',N,rfl,k1,k2,k3,k4,k5,k6⟩:=hc;exact ⟨B,d,rfl,(h.ak hf).fin k2 k3 k6,⟨M,(hm.ak hf).fr k6 fun i hi hg=>by have:=hM i hi;have:=h.gl i hg;omega⟩,N,k1⟩
theorem Hf2.same (h:Hf2 w H p q x m A c B d w2):Calls Tryz.prog 40 #[.slice A x.2.length c,.slice B x.2.length d] w2 fun e w' =>e= .returned (.bool true)∧nE w H p q x.1 m w' :=by
 obtain ⟨h1,⟨M,h2⟩,N,h3⟩:=h;exact (mK h2 h3).mono fun e w' ⟨he,hf⟩=>⟨he,h1.quiet hf⟩
theorem PA.aJ (h:PA w H p q r n)(hsz:n+200≤140737488355328)(hf:Fr No w W):Calls Tryz.prog 33 #[.pointer (some ⟨p,0,none⟩)] W fun e w1=>∃A c,e= .returned (.slice A r.aJ.2.length c)∧Hf1 w H p q r n r.aJ (n+48) A c w1:=by
 obtain ⟨F,G,h1,h2,h3,h4,h5,h6⟩:=h;exact (kN (h1.ak hf) hsz).mono fun e w1 hc=>Hf1.of h1 h2 h3 h4 h5 h6 hf hc
theorem Hf1.aJ (h:Hf1 w H p q r n r.aJ (n+48) A c w1)(hsz:n+200≤140737488355328)(hf:Fr No w1 W):Calls Tryz.prog 41 #[.pointer (some ⟨q,0,none⟩)] W fun e w2=>∃B d,e= .returned (.slice B r.aJ.2.length d)∧Hf2 w H p q r.aJ (n+48) A c B d w2:=by
 obtain ⟨F,G,M,h1,h2,h3⟩:=h;exact (pW (h1.rf.ak hf) hsz).mono fun e w2 hc=>Hf1.fin h1 h2 h3 hf hc
theorem PA.nD (h:PA w H p q r n)(hf:Fr No w W):Calls Tryz.prog 44 #[.pointer (some ⟨p,0,none⟩)] W fun e w1=>∃A c,e= .returned (.slice A r.nD.length c)∧Hf1 w H p q r n (r,r.nD) n A c w1:=by
 obtain ⟨F,G,h1,h2,h3,h4,h5,h6⟩:=h;exact (ahf (h1.ak hf)).mono fun e w1 hc=>Hf1.of (x:=(r,r.nD)) h1 h2 h3 h4 h5 h6 hf (aQ.mk' ((h1.ak hf).self) hc)
theorem Hf1.nD (h:Hf1 w H p q r n (r,r.nD) n A c w1)(hf:Fr No w1 W):Calls Tryz.prog 45 #[.pointer (some ⟨q,0,none⟩)] W fun e w2=>∃B d,e= .returned (.slice B r.nD.length d)∧Hf2 w H p q (r,r.nD) n A c B d w2:=by
 obtain ⟨F,G,M,h1,h2,h3⟩:=h;exact (ab5 (h1.rf.ak hf)).mono fun e w2 hc=>Hf1.fin (x:=(r,r.nD)) h1 h2 h3 hf hc
theorem PA.propose (h:PA w H p q r n)(y:En)(he:y.ok)(hsz:n+200≤140737488355328)(hf:Fr No w W):Calls Tryz.prog 34 #[.pointer (some ⟨p,0,none⟩),y.v] W fun e w1=>∃A c,e= .returned (.tuple #[.slice A (r.propose y).2.length c,.int .i64 (r.fH y)])∧Hf1 w H p q r n (r.propose y) (n+128) A c w1:=by
 obtain ⟨F,G,h1,h2,h3,h4,h5,h6⟩:=h;refine (qm (h1.ak hf) y he hsz).mono fun e w1 hc=> ?_;obtain ⟨A,c,F',M,rfl,hm,hp,i1,i2,i3,f⟩:=hc;exact ⟨A,c,rfl,F',G,M,Hf.of h1 h2 h3 h4 h5 h6 hf hp i1 f,hm,fun i hi=>Nat.le_trans hf.size (i2 i hi)⟩
theorem Hf1.propose {y:En}(h:Hf1 w H p q r n (r.propose y) (n+128) A c w1)(he:y.ok)(hsz:n+200≤140737488355328)(hf:Fr No w1 W):Calls Tryz.prog 43 #[.pointer (some ⟨q,0,none⟩),y.v] W fun e w2=>∃B d,e= .returned (.tuple #[.slice B (r.propose y).2.length d,.int .i64 (r.fH y)])∧Hf2 w H p q (r.propose y) (n+128) A c B d w2:=by
 obtain ⟨F,G,M,h1,h2,h3⟩:=h;refine (sG (h1.rf.ak hf) y he hsz).mono fun e w2 hc=> ?_;obtain ⟨B,d,G',N,rfl,k1,k2,k3,k4,k5,k6⟩:=hc;exact ⟨B,d,rfl,(h1.ak hf).fin k2 k3 k6,⟨M,(h2.ak hf).fr k6 fun i hi hg=>by have:=h3 i hi;have:=h1.gl i hg;omega⟩,N,k1⟩
theorem PA.handle {E:Nat→Prop}{Am:Option Addr}{cm:Nat}(h:PA w H p q r n)(y:Ms)(hE:Ent w E (.slice Am y.es.length cm) y.es)(hEH:∀i,E i→¬H i)(hes:∀x∈y.es,x.e.ok)(hlen:y.es.length≤1000000)(hsz:n+700000≤140737488355328)(hf:Fr No w W):
  Calls Tryz.prog 49 #[.pointer (some ⟨p,0,none⟩),y.v (.slice Am y.es.length cm)] W fun e w1=>∃A c,e= .returned (.slice A (r.handle y).2.length c)∧Hf1 w H p q r n (r.handle y) (n+700000) A c w1:=by
 obtain ⟨F,G,h1,h2,h3,h4,h5,h6⟩:=h;exact (pz (h1.ak hf) y Am cm (hE.ak hf) (fun i hi hF=>hEH i hi (h4 i hF)) hes hlen hsz).mono fun e w1 hc=>Hf1.of h1 h2 h3 h4 h5 h6 hf hc
theorem Hf1.handle {E:Nat→Prop}{Am:Option Addr}{cm:Nat}{y:Ms}(h:Hf1 w H p q r n (r.handle y) (n+700000) A c w1)(hE:Ent w E (.slice Am y.es.length cm) y.es)(hEH:∀i,E i→¬H i)(hes:∀x∈y.es,x.e.ok)(hlen:y.es.length≤1000000)(hsz:n+700000≤140737488355328)(hf:Fr No w1 W):
  Calls Tryz.prog 50 #[.pointer (some ⟨q,0,none⟩),y.v (.slice Am y.es.length cm)] W fun e w2=>∃B d,e= .returned (.slice B (r.handle y).2.length d)∧Hf2 w H p q (r.handle y) (n+700000) A c B d w2:=by
 obtain ⟨F,G,M,h1,h2,h3⟩:=h;exact (vE (h1.rf.ak hf) y Am cm ((hE.fr h1.fr hEH).ak hf) (fun i hi hG=>hEH i hi (h1.gh i hG)) hes hlen hsz).mono fun e w2 hc=>Hf1.fin h1 h2 h3 hf hc
theorem PA.crash (h:PA w H p q r n)(keep:Int)(hf:Fr No w W):Calls Tryz.prog 46 #[.pointer (some ⟨p,0,none⟩),.int .i64 keep] W fun e w1=>e= .returned (.tuple #[])∧∃F G,Hf w H p q r r.crash n n F G w1:=by
 obtain ⟨F,G,h1,h2,h3,h4,h5,h6⟩:=h;refine (ac5 (h1.ak hf) keep).mono fun e w1 ⟨he,F',g1,g2,g3⟩=>⟨he,F',G,Hf.of h1 h2 h3 h4 h5 h6 hf g1 g2 g3⟩
theorem Hf.crash (h:Hf w H p q r r.crash n n F G w1)(keep:Int)(hsz:n≤1000000000000)(hf:Fr No w1 W):Calls Tryz.prog 48 #[.pointer (some ⟨q,0,none⟩),.int .i64 keep] W fun e w2=>e= .returned (.tuple #[])∧nE w H p q r.crash n w2:=
 (yJ (h.rf.ak hf) keep hsz).mono fun e w2 ⟨he,G',g1,g2,g3⟩=>⟨he,(h.ak hf).fin g1 g2 g3⟩
end
end
section
theorem wF (v low high:Int)(w:World)(h1:low≤high)(h2: -1152921504606846976≤low)(h3:high≤1152921504606846976):
  Calls Tryz.prog 47 #[.int .i64 v,.int .i64 low,.int .i64 high] w fun e w' =>∃x,e= .returned (.int .i64 x)∧low≤x∧x≤high∧w=w' :=by
 refine (qR v low high w h1 h2 h3).mono ?_;rintro e w' ⟨rfl,rfl⟩;have b1:=Int.emod_nonneg v (b:=high-low+1) oy;have b2:=Int.emod_lt_of_pos v (b:=high-low+1) oy;exact ⟨_,rfl,by omega,by omega,rfl⟩
theorem amf (v low high:Int)(w:World)(h1:low≤high)(h2: -1152921504606846976≤low)(h3:high≤1152921504606846976):
  Calls Tryz.prog 47 #[.int .i64 v,.int .i64 low,.int .i64 high] w fun e w' =>e= .returned (.int .i64 (low+v % (high-low+1)))∧w' =w:=
 (qR v low high w h1 h2 h3).mono fun e w' ⟨h,k⟩=>⟨h,k.symm⟩
theorem anr (v n:Int)(w:World)(hn:0<n)(hn2:n≤4611686018427387904):
  Calls Tryz.prog 7 #[.int .i64 v,.int .i64 n] w fun e w' =>e= .returned (.int .i64 (v % n))∧w' =w:=
 (dO v n w hn hn2).mono fun e w' ⟨h,k⟩=>⟨h,k.symm⟩
abbrev wK:TypeId:=39
structure St9 where
 wh:Int
 a:Int
 b:Int
 m:Ms
def St9.cells (s:St9)(v:Value):List Value:=[.int .i64 s.wh,.int .i64 s.a,.int .i64 s.b,.int .i64 s.m.kind,.int .i64 s.m.from_,.int .i64 s.m.to_,.int .i64 s.m.term,.int .i64 s.m.index,.int .i64 s.m.prev,.int .i64 s.m.commit,.bool s.m.ok,v]
abbrev St9.v (s:St9)(v:Value):Value:= .agg #[.int .i64 s.wh,.int .i64 s.a,.int .i64 s.b,.int .i64 s.m.kind,.int .i64 s.m.from_,.int .i64 s.m.to_,.int .i64 s.m.term,.int .i64 s.m.index,.int .i64 s.m.prev,.int .i64 s.m.commit,.bool s.m.ok,v]
abbrev ms0:Array Value:= #[.int .i64 0,.int .i64 0,.int .i64 0,.int .i64 0,.int .i64 0,.int .i64 0,.int .i64 0,.bool false,.slice none 0 0]
def Lk (w:World)(g1:Nat)(sv:Array Value)(ok:Bool)(v:Value)(W:World):Prop:=
 ∃kd mf mto mt ix pv cm,Blk W g1 wK sv∧Blk W (g1+1) TMs ms0∧Blk W (g1+2) TMs (cZ kd mf mto mt ix pv cm ok v)∧Fr No w W∧w.heap.size≤g1
section
variable {w W W' :World}{g1:Nat}{sv:Array Value}{ok:Bool}{v:Value}
theorem Lk.set0 (h:Lk w g1 sv ok v W)(x:Int):Lk w g1 sv ok v (W.setCell ⟨g1+2,0,none⟩ (.int .i64 x)):=by
 obtain ⟨kd,mf,mto,mt,ix,pv,cm,h1,h0,h2,h3,h4⟩:=h;have hs:=dx W ⟨g1+2,0,none⟩ (.int .i64 x);exact ⟨x,mf,mto,mt,ix,pv,cm,h1.fr hs (fun e=>by have e:g1=g1+2:=e;omega),h0.fr hs (fun e=>by have e:g1+1=g1+2:=e;omega),(h2.aU 0 _).conv rfl,h3.aA hs (fun i e=>by have e:i=g1+2:=e;omega),h4⟩
theorem Lk.set1 (h:Lk w g1 sv ok v W)(x:Int):Lk w g1 sv ok v (W.setCell ⟨g1+2,1,none⟩ (.int .i64 x)):=by
 obtain ⟨kd,mf,mto,mt,ix,pv,cm,h1,h0,h2,h3,h4⟩:=h;have hs:=dx W ⟨g1+2,1,none⟩ (.int .i64 x);exact ⟨kd,x,mto,mt,ix,pv,cm,h1.fr hs (fun e=>by have e:g1=g1+2:=e;omega),h0.fr hs (fun e=>by have e:g1+1=g1+2:=e;omega),(h2.aU 1 _).conv rfl,h3.aA hs (fun i e=>by have e:i=g1+2:=e;omega),h4⟩
theorem Lk.set2 (h:Lk w g1 sv ok v W)(x:Int):Lk w g1 sv ok v (W.setCell ⟨g1+2,2,none⟩ (.int .i64 x)):=by
 obtain ⟨kd,mf,mto,mt,ix,pv,cm,h1,h0,h2,h3,h4⟩:=h;have hs:=dx W ⟨g1+2,2,none⟩ (.int .i64 x);exact ⟨kd,mf,x,mt,ix,pv,cm,h1.fr hs (fun e=>by have e:g1=g1+2:=e;omega),h0.fr hs (fun e=>by have e:g1+1=g1+2:=e;omega),(h2.aU 2 _).conv rfl,h3.aA hs (fun i e=>by have e:i=g1+2:=e;omega),h4⟩
theorem Lk.aff (h:Lk w g1 sv ok v W)(x:Int):Lk w g1 sv ok v (W.setCell ⟨g1+2,3,none⟩ (.int .i64 x)):=by
 obtain ⟨kd,mf,mto,mt,ix,pv,cm,h1,h0,h2,h3,h4⟩:=h;have hs:=dx W ⟨g1+2,3,none⟩ (.int .i64 x);exact ⟨kd,mf,mto,x,ix,pv,cm,h1.fr hs (fun e=>by have e:g1=g1+2:=e;omega),h0.fr hs (fun e=>by have e:g1+1=g1+2:=e;omega),(h2.aU 3 _).conv rfl,h3.aA hs (fun i e=>by have e:i=g1+2:=e;omega),h4⟩
theorem Lk.zS (h:Lk w g1 sv ok v W)(x:Int):Lk w g1 sv ok v (W.setCell ⟨g1+2,4,none⟩ (.int .i64 x)):=by
 obtain ⟨kd,mf,mto,mt,ix,pv,cm,h1,h0,h2,h3,h4⟩:=h;have hs:=dx W ⟨g1+2,4,none⟩ (.int .i64 x);exact ⟨kd,mf,mto,mt,x,pv,cm,h1.fr hs (fun e=>by have e:g1=g1+2:=e;omega),h0.fr hs (fun e=>by have e:g1+1=g1+2:=e;omega),(h2.aU 4 _).conv rfl,h3.aA hs (fun i e=>by have e:i=g1+2:=e;omega),h4⟩
theorem Lk.aa8 (h:Lk w g1 sv ok v W)(x:Int):Lk w g1 sv ok v (W.setCell ⟨g1+2,5,none⟩ (.int .i64 x)):=by
 obtain ⟨kd,mf,mto,mt,ix,pv,cm,h1,h0,h2,h3,h4⟩:=h;have hs:=dx W ⟨g1+2,5,none⟩ (.int .i64 x);exact ⟨kd,mf,mto,mt,ix,x,cm,h1.fr hs (fun e=>by have e:g1=g1+2:=e;omega),h0.fr hs (fun e=>by have e:g1+1=g1+2:=e;omega),(h2.aU 5 _).conv rfl,h3.aA hs (fun i e=>by have e:i=g1+2:=e;omega),h4⟩
theorem Lk.abv (h:Lk w g1 sv ok v W)(x:Int):Lk w g1 sv ok v (W.setCell ⟨g1+2,6,none⟩ (.int .i64 x)):=by
 obtain ⟨kd,mf,mto,mt,ix,pv,cm,h1,h0,h2,h3,h4⟩:=h;have hs:=dx W ⟨g1+2,6,none⟩ (.int .i64 x);exact ⟨kd,mf,mto,mt,ix,pv,x,h1.fr hs (fun e=>by have e:g1=g1+2:=e;omega),h0.fr hs (fun e=>by have e:g1+1=g1+2:=e;omega),(h2.aU 6 _).conv rfl,h3.aA hs (fun i e=>by have e:i=g1+2:=e;omega),h4⟩
theorem Lk.aj7 (h:Lk w g1 sv ok v W)(x:Value):Lk w g1 sv ok x (W.setCell ⟨g1+2,8,none⟩ x):=by
 obtain ⟨kd,mf,mto,mt,ix,pv,cm,h1,h0,h2,h3,h4⟩:=h;have hs:=dx W ⟨g1+2,8,none⟩ x;exact ⟨kd,mf,mto,mt,ix,pv,cm,h1.fr hs (fun e=>by have e:g1=g1+2:=e;omega),h0.fr hs (fun e=>by have e:g1+1=g1+2:=e;omega),(h2.aU 8 _).conv rfl,h3.aA hs (fun i e=>by have e:i=g1+2:=e;omega),h4⟩
theorem Lk.frq (h:Lk w g1 sv ok v W):Fr No w W:=let ⟨_,_,_,_,_,_,_,_,_,_,h3,_⟩:=h;h3
theorem Lk.big (h:Lk w g1 sv ok v W):w.heap.size≤g1∧g1+2<W.heap.size:=let ⟨_,_,_,_,_,_,_,_,_,h2,_,h4⟩:=h;⟨h4,h2.lt⟩
theorem Lk.frG {F:Nat→Prop}(h:Lk w g1 sv ok v W)(hf:Fr F W W')(hn:¬F g1∧¬F (g1+1)∧¬F (g1+2))(hF:∀i,F i→w.heap.size≤i):Lk w g1 sv ok v W' :=by
 obtain ⟨kd,mf,mto,mt,ix,pv,cm,h1,h0,h2,h3,h4⟩:=h;exact ⟨kd,mf,mto,mt,ix,pv,cm,h1.fr hf hn.1,h0.fr hf hn.2.1,h2.fr hf hn.2.2,h3.aA hf hF,h4⟩
theorem Lk.ak (h:Lk w g1 sv ok v W)(hf:Fr No W W'):Lk w g1 sv ok v W' :=h.frG hf ⟨fun h=>h,fun h=>h,fun h=>h⟩ fun _ h=>h.elim
theorem Lk.drew (h:Lk w g1 sv ok v W):Lk w g1 sv ok v W.drew:=h.ak (Fr.refl No W).drew
theorem Lk.drewN (h:Lk w g1 sv ok v W)(n:Nat):Lk w g1 sv ok v (W.drewN n):=h.ak ((Fr.refl No W).drewN n)
theorem Lk.cells (h:Lk w g1 sv ok v W):∃kd mf mto mt ix pv cm,W.cell? ⟨g1+2,0,none⟩=some (.int .i64 kd)∧W.cell? ⟨g1+2,1,none⟩=some (.int .i64 mf)∧W.cell? ⟨g1+2,2,none⟩=some (.int .i64 mto)∧W.cell? ⟨g1+2,3,none⟩=some (.int .i64 mt)∧W.cell? ⟨g1+2,4,none⟩=some (.int .i64 ix)∧W.cell? ⟨g1+2,5,none⟩=some (.int .i64 pv)∧W.cell? ⟨g1+2,6,none⟩=some (.int .i64 cm)∧W.cell? ⟨g1+2,7,none⟩=some (.bool ok)∧W.cell? ⟨g1+2,8,none⟩=some v∧Blk W (g1+2) TMs (cZ kd mf mto mt ix pv cm ok v):=by
 obtain ⟨kd,mf,mto,mt,ix,pv,cm,h1,h0,h2,h3,h4⟩:=h;exact ⟨kd,mf,mto,mt,ix,pv,cm,h2.cell 0,h2.cell 1,h2.cell 2,h2.cell 3,h2.cell 4,h2.cell 5,h2.cell 6,h2.cell 7,h2.cell 8,h2⟩
theorem Lk.frozen (h:Lk w g1 sv ok v W)(i:Nat):W.frozen? ⟨g1+2,i,none⟩=false:=let ⟨_,_,_,_,_,_,_,_,_,h2,_⟩:=h;h2.frozen i
theorem Lk.svc (h:Lk w g1 sv ok v W)(i:Nat):W.cell? ⟨g1,i,none⟩=sv[i]? :=let ⟨_,_,_,_,_,_,_,h1,_⟩:=h;h1.cell i
def LkL (w:World)(g1:Nat)(sv:Array Value)(ok:Bool)(k:Nat)(W:World):Prop:=
 ∃es A c,Lk w g1 sv ok (.slice A es.length c) W∧bG W (fun b=>g1+3≤b) TLg 10 (.slice A es.length c) es.length (dD es)∧es.length=k∧∀x∈es,x.e.ok
theorem LkL.ak {k:Nat}(h:LkL w g1 sv ok k W)(hf:Fr No W W'):LkL w g1 sv ok k W' :=by
 obtain ⟨es,A,c,h1,h2,h3⟩:=h;exact ⟨es,A,c,h1.ak hf,h2.ak hf,h3⟩
theorem bG.pushB {W w1:World}{B:Nat}{A:Option Addr}{c n:Nat}{l:List Lg}{x:Lg}{v' :Value}(h:bG W (fun b=>B≤b) TLg 10 (.slice A n c) n (dD l))(hB:B≤W.heap.size)
  (ha:bN W 0 TLg 10 (.slice A n c) n (dD l) x.cells 1 v' w1):
  ∃A' c',v' = .slice A' (n+1) c'∧bG w1 (fun b=>B≤b) TLg 10 (.slice A' (n+1) c') (n+1) (dD (l++[x]))∧Fr (fun b=>B≤b) W w1:=by
 obtain ⟨o1,f1⟩:=h.appended ha;obtain ⟨A',c',rfl,-⟩:=o1.form;refine ⟨A',c',rfl,?_,f1⟩;rw [mV];exact o1.mono fun i hi=>by rcases hi with hi|hi<;>omega
theorem LkL.push {k:Nat}{es:List Lg}{A A' :Option Addr}{c c' :Nat}{x:Lg}(h:Lk w g1 sv ok (.slice A es.length c) W)(o:bG W (fun b=>g1+3≤b) TLg 10 (.slice A' (es.length+1) c') (es.length+1) (dD (es++[x])))(hk:es.length=k)(hes:∀y∈es,y.e.ok)(hx:x.e.ok):
  LkL w g1 sv ok (k+1) (W.setCell ⟨g1+2,8,none⟩ (.slice A' (es.length+1) c')):=by
 have hl:(es++[x]).length=es.length+1:=by simp
 refine ⟨es++[x],A',c',by rw [hl];exact h.aj7 _,?_,by rw [hl,hk],fun y hy=> ?_⟩
 ·rw [hl]
  exact o.fr' (dx W ⟨g1+2,8,none⟩ _) fun g hg he=>by have h1:=o.2 g hg;have he:g=g1+2:=he;have h1:g1+3≤g:=h1;omega
 ·rcases List.mem_append.1 hy with hy|hy
  ·exact hes y hy
  ·rw [List.mem_singleton.1 hy];exact hx
theorem lJ (m:Ms)(v:Value)(g:Nat)(ts:Array Value)(W:World)(hb:Blk W g TMs #[.int .i64 m.kind,.int .i64 m.from_,.int .i64 m.to_,.int .i64 m.term,.int .i64 m.index,.int .i64 m.prev,.int .i64 m.commit,.bool m.ok,v])(h2:ts[4]?.getD undef= .pointer (some ⟨g,0,none⟩)):
  (results Tryz.f51 ts).run Tryz.prog W= .ok (m.v v) W:=by
 obtain ⟨c0,c1,c2,c3,c4,c5,c6,c7,c8⟩:=aL hb;clear hb
 simp [results,Tryz.results51,go_sem,h2,c0,c1,c2,c3,c4,c5,c6,c7,c8]
def aoo (w:World)(e:Ending)(w' :World):Prop:=∃(y:Ms) (A:Option Addr) (c:Nat) (E:Nat→Prop),e= .returned (y.v (.slice A y.es.length c))∧Ent w' E (.slice A y.es.length c) y.es∧(∀i,E i→w.heap.size≤i)∧(∀x∈y.es,x.e.ok)∧y.es.length≤8∧Fr No w w'
end
end
section
section
variable {w w' w1 w2 W:World}{H:Nat→Prop}{p q n m:Nat}{r r' :Rs}{x:Rs×List Ms}{A B:Option Addr}{c d:Nat}{C:Prop}
def BTo (w:World)(H:Nat→Prop)(p q:Nat)(r:Rs)(n:Nat)(C:Prop)(w' :World):Prop:=∃r',Turns C r r'∧nE w H p q r' (n+700000) w'
theorem nE.tT (h:nE w H p q r n w1):Calls Tryz.prog 20 #[.pointer (some ⟨p,0,none⟩),.pointer (some ⟨q,0,none⟩)] w1 fun e w' =>e= .returned (.bool true)∧nE w H p q r n w' :=by
 have hq:=fun w' (hf:Fr No w1 w')=>h.quiet hf;obtain ⟨H',⟨F,G,h1,h2,-⟩,-⟩:=h;exact (pU h1 h2).mono fun e w' ⟨he,hf⟩=>⟨he,hq w' hf⟩
theorem BTo.of {W0:World}(hf:Fr No w W0)(h:nE W0 H p q r' m w')(hm:m≤n+700000)(ht:Turns C r r'):BTo w H p q r n C w' :=⟨r',ht,(nE.after hf h).more hm⟩
theorem nE.frH (h:nE w H p q r n w'):Fr H w w' :=let ⟨_,_,_,h3⟩:=h;h3
theorem Hf1.frH {e:Rs×List Ms}(h:Hf1 w H p q r n e m A c w1):Fr H w w1:=let ⟨_,_,_,h,_,_⟩:=h;h.fr
theorem Hf2.frH (h:Hf2 w H p q x m A c B d w2):Fr H w w2:=h.1.frH
theorem wC {Z:World}{q:Nat}{x0 x1 x2 x3 x4 x5 x6 x7 x8:Value}(e:En)(h:Blk Z q dR #[x0,x1,x2,x3,x4,x5,x6,x7,x8]):Blk (World.setCell (World.setCell (World.setCell (World.setCell (World.setCell (World.setCell (World.setCell (World.setCell (World.setCell (Z) ⟨q,0,none⟩ (.int .i64 e.kind)) ⟨q,1,none⟩ (.int .i64 e.tick)) ⟨q,2,none⟩ (.int .i64 e.aS)) ⟨q,3,none⟩ (.int .i64 e.cell)) ⟨q,4,none⟩ (.int .i64 e.other)) ⟨q,5,none⟩ (.int .i64 e.epoch)) ⟨q,6,none⟩ (.int .i64 e.from_)) ⟨q,7,none⟩ (.int .i64 e.bA)) ⟨q,8,none⟩ (.int .i64 e.n)) q dR #[.int .i64 e.kind,.int .i64 e.tick,.int .i64 e.aS,.int .i64 e.cell,.int .i64 e.other,.int .i64 e.epoch,.int .i64 e.from_,.int .i64 e.bA,.int .i64 e.n]:=by
 refine Blk.conv (Blk.aU (Blk.aU (Blk.aU (Blk.aU (Blk.aU (Blk.aU (Blk.aU (Blk.aU (Blk.aU (h) 0 (.int .i64 e.kind)) 1 (.int .i64 e.tick)) 2 (.int .i64 e.aS)) 3 (.int .i64 e.cell)) 4 (.int .i64 e.other)) 5 (.int .i64 e.epoch)) 6 (.int .i64 e.from_)) 7 (.int .i64 e.bA)) 8 (.int .i64 e.n)) ?_;simp only [List.setIfInBounds_toArray,List.set_cons_zero,List.set_cons_succ]
structure SAt (w:World) (H E:Nat→Prop) (s:St9) (A:Option Addr) (c:Nat):Prop where
 ent:Ent w E (.slice A s.m.es.length c) s.m.es
 apart:∀i,E i→¬H i
 ok:∀x∈s.m.es,x.e.ok
 len:s.m.es.length≤8
 a: -9223372036854775808≤s.a∧s.a≤9223372036854775807
 b: -9223372036854775808≤s.b∧s.b≤9223372036854775807
end
end
set_option maxHeartbeats 8000000 in
theorem ajk {w:World}{H E:Nat→Prop}{p q n:Nat}{r:Rs}(h:PA w H p q r n)(s:St9)(A:Option Addr)(c:Nat)(hs:SAt w H E s A c)(hsz:n+700000≤1000000000000)(hm:s.wh % 10=0):
  Calls Tryz.prog 16 #[.pointer (some ⟨p,0,none⟩),.pointer (some ⟨q,0,none⟩),s.v (.slice A s.m.es.length c)] w fun e w' =>e= .returned (.bool true)∧BTo w H p q r n (s.wh % 10=4) w' :=by
 have hM:=fun W=>dO s.wh 10 W dcd dcd;simp only [hm] at hM;have hok:=h.ok;have hl:=h.lt;obtain ⟨hE,hEH,hes,hlen,ha,hb⟩:=hs;have hM2:=hE.rd.2.2.1;have hM1:=hE.rd.2.2.2.1;unfold maxLen at hM1;obtain ⟨wh,a,b,kd,mf,mto,mt,ix,pv,cm,ok,es⟩:=s;simp only [St9.v] at*;obtain ⟨len,hle⟩:∃len,len=es.length:=⟨_,rfl⟩;simp only [←hle] at hlen hM2 hE ⊢;obtain ⟨W0,hW0⟩:∃W0,W0=w.alloc (.cells #[.int .i64 wh,.int .i64 a,.int .i64 b,.int .i64 kd,.int .i64 mf,.int .i64 mto,.int .i64 mt,.int .i64 ix,.int .i64 pv,.int .i64 cm,.bool ok,.slice A len c] wK):=⟨_,rfl⟩;obtain ⟨g,hg⟩:∃g,g=w.heap.size:=⟨_,rfl⟩;have hbk:Blk W0 g wK #[.int .i64 wh,.int .i64 a,.int .i64 b,.int .i64 kd,.int .i64 mf,.int .i64 mto,.int .i64 mt,.int .i64 ix,.int .i64 pv,.int .i64 cm,.bool ok,.slice A len c]:=by rw [hW0,hg];exact Blk.new _ _ _
 have hf0:Fr No w W0:=by rw [hW0];exact aj _ _
 have h0:=h.ak hf0;have hE0:=hE.ak hf0;rw [←hg] at hl;have hgl:=hbk.lt;have hbx:∀V,Fr H W0 V→(V.cell? ⟨g,0,none⟩=some (.int .i64 wh)∧V.cell? ⟨g,1,none⟩=some (.int .i64 a)∧V.cell? ⟨g,2,none⟩=some (.int .i64 b))∧V.cell? ⟨g,3,none⟩=some (.int .i64 kd)∧V.cell? ⟨g,4,none⟩=some (.int .i64 mf)∧V.cell? ⟨g,5,none⟩=some (.int .i64 mto)∧V.cell? ⟨g,6,none⟩=some (.int .i64 mt)∧V.cell? ⟨g,7,none⟩=some (.int .i64 ix)∧V.cell? ⟨g,8,none⟩=some (.int .i64 pv)∧V.cell? ⟨g,9,none⟩=some (.int .i64 cm)∧V.cell? ⟨g,10,none⟩=some (.bool ok)∧V.cell? ⟨g,11,none⟩=some (.slice A len c):=fun V hV=>let k:=hbk.fr hV (fun hh=>by have:=hl g hh;omega);⟨⟨k.cell 0,k.cell 1,k.cell 2⟩,k.cell 3,k.cell 4,k.cell 5,k.cell 6,k.cell 7,k.cell 8,k.cell 9,k.cell 10,k.cell 11⟩;obtain ⟨⟨c0,c1,c2⟩,c3,c4,c5,c6,c7,c8,c9,c10,c11⟩:=hbx W0 (Fr.refl _ _);clear hbk;have hP:=fun W (hf:Fr No W0 W)=>h0.aJ oy hf;have hR:=fun A c w1 W (h1:Hf1 W0 H p q r n r.aJ (n+48) A c w1) (hf:Fr No w1 W)=>h1.aJ oy hf;have hTu:Turns (wh % 10=4) r r.aJ.1:= .inr ⟨by omega,Kept.aJ r⟩;clear h h0 hE hE0 hm;obtain ⟨HM,HBX,HW0,HG,HF0,HLE,HP,HR,HTU⟩:=aap hM hbx hW0 hg hf0 hle hP hR hTu;clear hM hbx hW0 hg hf0 hle hP hR hTu
 go_in
 go_upto_region 1 with fail
 rw [←HG.out,←HW0.out]
 go_wp2_with fail
 refine (HM.out _).mono ?_;rintro e w' ⟨rfl,rfl⟩
 go_wp2_with fail
 refine (HP.out _ (Fr.refl _ _)).mono ?_;rintro e w5 ⟨A5,d5,rfl,q5⟩;have Q5:=O q5;clear q5
 go_wp2_with fail
 refine (HR.out _ _ _ _ Q5.out (Fr.refl _ _)).mono ?_;rintro e w6 ⟨B6,d6,rfl,q6⟩;have Q6:=O q6;clear q6 Q5
 go_wp2_with fail
 refine Q6.out.same.mono ?_;rintro e w7 ⟨rfl,t7⟩;have T7:=O t7;clear t7 Q6
 go_wp2_with fail
 refine T7.out.tT.mono ?_;rintro e w8 ⟨rfl,t8⟩;have T8:=O t8;clear t8 T7
 go_wp2_with fail
 go_ret
 exact ⟨rfl,BTo.of HF0.out T8.out oy HTU.out⟩
set_option maxHeartbeats 8000000 in
theorem ajh {w:World}{H E:Nat→Prop}{p q n:Nat}{r:Rs}(h:PA w H p q r n)(s:St9)(A:Option Addr)(c:Nat)(hs:SAt w H E s A c)(hsz:n+700000≤1000000000000)(hm:s.wh % 10=3):
  Calls Tryz.prog 16 #[.pointer (some ⟨p,0,none⟩),.pointer (some ⟨q,0,none⟩),s.v (.slice A s.m.es.length c)] w fun e w' =>e= .returned (.bool true)∧BTo w H p q r n (s.wh % 10=4) w' :=by
 have hM:=fun W=>dO s.wh 10 W dcd dcd;simp only [hm] at hM;have hok:=h.ok;have hl:=h.lt;obtain ⟨hE,hEH,hes,hlen,ha,hb⟩:=hs;have hM2:=hE.rd.2.2.1;have hM1:=hE.rd.2.2.2.1;unfold maxLen at hM1;obtain ⟨wh,a,b,kd,mf,mto,mt,ix,pv,cm,ok,es⟩:=s;simp only [St9.v] at*;obtain ⟨len,hle⟩:∃len,len=es.length:=⟨_,rfl⟩;simp only [←hle] at hlen hM2 hE ⊢;obtain ⟨W0,hW0⟩:∃W0,W0=w.alloc (.cells #[.int .i64 wh,.int .i64 a,.int .i64 b,.int .i64 kd,.int .i64 mf,.int .i64 mto,.int .i64 mt,.int .i64 ix,.int .i64 pv,.int .i64 cm,.bool ok,.slice A len c] wK):=⟨_,rfl⟩;obtain ⟨g,hg⟩:∃g,g=w.heap.size:=⟨_,rfl⟩;have hbk:Blk W0 g wK #[.int .i64 wh,.int .i64 a,.int .i64 b,.int .i64 kd,.int .i64 mf,.int .i64 mto,.int .i64 mt,.int .i64 ix,.int .i64 pv,.int .i64 cm,.bool ok,.slice A len c]:=by rw [hW0,hg];exact Blk.new _ _ _
 have hf0:Fr No w W0:=by rw [hW0];exact aj _ _
 have h0:=h.ak hf0;have hE0:=hE.ak hf0;rw [←hg] at hl;have hgl:=hbk.lt;have hbx:∀V,Fr H W0 V→(V.cell? ⟨g,0,none⟩=some (.int .i64 wh)∧V.cell? ⟨g,1,none⟩=some (.int .i64 a)∧V.cell? ⟨g,2,none⟩=some (.int .i64 b))∧V.cell? ⟨g,3,none⟩=some (.int .i64 kd)∧V.cell? ⟨g,4,none⟩=some (.int .i64 mf)∧V.cell? ⟨g,5,none⟩=some (.int .i64 mto)∧V.cell? ⟨g,6,none⟩=some (.int .i64 mt)∧V.cell? ⟨g,7,none⟩=some (.int .i64 ix)∧V.cell? ⟨g,8,none⟩=some (.int .i64 pv)∧V.cell? ⟨g,9,none⟩=some (.int .i64 cm)∧V.cell? ⟨g,10,none⟩=some (.bool ok)∧V.cell? ⟨g,11,none⟩=some (.slice A len c):=fun V hV=>let k:=hbk.fr hV (fun hh=>by have:=hl g hh;omega);⟨⟨k.cell 0,k.cell 1,k.cell 2⟩,k.cell 3,k.cell 4,k.cell 5,k.cell 6,k.cell 7,k.cell 8,k.cell 9,k.cell 10,k.cell 11⟩;obtain ⟨⟨c0,c1,c2⟩,c3,c4,c5,c6,c7,c8,c9,c10,c11⟩:=hbx W0 (Fr.refl _ _);clear hbk;have hP:=fun W (hf:Fr No W0 W)=>h0.nD hf;have hR:=fun A c w1 W (h1:Hf1 W0 H p q r n (r,r.nD) n A c w1) (hf:Fr No w1 W)=>h1.nD hf;have hTu:Turns (wh % 10=4) r r:= .inr ⟨by omega,Kept.refl r⟩;clear h h0 hE hE0 hm;obtain ⟨HM,HBX,HW0,HG,HF0,HLE,HP,HR,HTU⟩:=aap hM hbx hW0 hg hf0 hle hP hR hTu;clear hM hbx hW0 hg hf0 hle hP hR hTu
 go_in
 go_upto_region 1 with fail
 rw [←HG.out,←HW0.out]
 go_wp2_with fail
 refine (HM.out _).mono ?_;rintro e w' ⟨rfl,rfl⟩
 go_wp2_with fail
 refine (HP.out _ (Fr.refl _ _)).mono ?_;rintro e w5 ⟨A5,d5,rfl,q5⟩;have Q5:=O q5;clear q5
 go_wp2_with fail
 refine (HR.out _ _ _ _ Q5.out (Fr.refl _ _)).mono ?_;rintro e w6 ⟨B6,d6,rfl,q6⟩;have Q6:=O q6;clear q6 Q5
 go_wp2_with fail
 refine Q6.out.same.mono ?_;rintro e w7 ⟨rfl,t7⟩;have T7:=O t7;clear t7 Q6
 go_wp2_with fail
 refine T7.out.tT.mono ?_;rintro e w8 ⟨rfl,t8⟩;have T8:=O t8;clear t8 T7
 go_wp2_with fail
 go_ret
 exact ⟨rfl,BTo.of HF0.out T8.out oy HTU.out⟩
set_option maxHeartbeats 8000000 in
theorem ajj {w:World}{H E:Nat→Prop}{p q n:Nat}{r:Rs}(h:PA w H p q r n)(s:St9)(A:Option Addr)(c:Nat)(hs:SAt w H E s A c)(hsz:n+700000≤1000000000000)(hm:s.wh % 10=1):
  Calls Tryz.prog 16 #[.pointer (some ⟨p,0,none⟩),.pointer (some ⟨q,0,none⟩),s.v (.slice A s.m.es.length c)] w fun e w' =>e= .returned (.bool true)∧BTo w H p q r n (s.wh % 10=4) w' :=by
 have hM:=fun W=>dO s.wh 10 W dcd dcd;simp only [hm] at hM;have hok:=h.ok;have hl:=h.lt;obtain ⟨hE,hEH,hes,hlen,ha,hb⟩:=hs;have hM2:=hE.rd.2.2.1;have hM1:=hE.rd.2.2.2.1;unfold maxLen at hM1;obtain ⟨wh,a,b,kd,mf,mto,mt,ix,pv,cm,ok,es⟩:=s;simp only [St9.v] at*;obtain ⟨len,hle⟩:∃len,len=es.length:=⟨_,rfl⟩;simp only [←hle] at hlen hM2 hE ⊢;obtain ⟨W0,hW0⟩:∃W0,W0=w.alloc (.cells #[.int .i64 wh,.int .i64 a,.int .i64 b,.int .i64 kd,.int .i64 mf,.int .i64 mto,.int .i64 mt,.int .i64 ix,.int .i64 pv,.int .i64 cm,.bool ok,.slice A len c] wK):=⟨_,rfl⟩;obtain ⟨g,hg⟩:∃g,g=w.heap.size:=⟨_,rfl⟩;have hbk:Blk W0 g wK #[.int .i64 wh,.int .i64 a,.int .i64 b,.int .i64 kd,.int .i64 mf,.int .i64 mto,.int .i64 mt,.int .i64 ix,.int .i64 pv,.int .i64 cm,.bool ok,.slice A len c]:=by rw [hW0,hg];exact Blk.new _ _ _
 have hf0:Fr No w W0:=by rw [hW0];exact aj _ _
 have h0:=h.ak hf0;have hE0:=hE.ak hf0;rw [←hg] at hl;have hgl:=hbk.lt;have hbx:∀V,Fr H W0 V→(V.cell? ⟨g,0,none⟩=some (.int .i64 wh)∧V.cell? ⟨g,1,none⟩=some (.int .i64 a)∧V.cell? ⟨g,2,none⟩=some (.int .i64 b))∧V.cell? ⟨g,3,none⟩=some (.int .i64 kd)∧V.cell? ⟨g,4,none⟩=some (.int .i64 mf)∧V.cell? ⟨g,5,none⟩=some (.int .i64 mto)∧V.cell? ⟨g,6,none⟩=some (.int .i64 mt)∧V.cell? ⟨g,7,none⟩=some (.int .i64 ix)∧V.cell? ⟨g,8,none⟩=some (.int .i64 pv)∧V.cell? ⟨g,9,none⟩=some (.int .i64 cm)∧V.cell? ⟨g,10,none⟩=some (.bool ok)∧V.cell? ⟨g,11,none⟩=some (.slice A len c):=fun V hV=>let k:=hbk.fr hV (fun hh=>by have:=hl g hh;omega);⟨⟨k.cell 0,k.cell 1,k.cell 2⟩,k.cell 3,k.cell 4,k.cell 5,k.cell 6,k.cell 7,k.cell 8,k.cell 9,k.cell 10,k.cell 11⟩;obtain ⟨⟨c0,c1,c2⟩,c3,c4,c5,c6,c7,c8,c9,c10,c11⟩:=hbx W0 (Fr.refl _ _);clear hbk;have hN:=fun W=>mR a W;have hna:=kR (a % 1000) (Int.emod_nonneg _ dcd) (Int.emod_lt_of_pos _ dcd);obtain ⟨ne,hne⟩:∃ne,ne=bE (a % 1000):=⟨_,rfl⟩;rw [←hne] at hN hna;have hSp:=fun W=>su ne a b W;have hns:=vk ne (a % 9) b hna hb;generalize sw ne (a % 9) b=se at*;have hP:=fun W9 (hf9:Fr No W0 W9) (y:En) (hy:y.ok) W (hf:Fr No W9 W)=>(h0.ak hf9).propose y hy oy hf;have hR:=fun W9 (hf9:Fr No W0 W9) (y:En) (hy:y.ok) A c w1 W (h1:Hf1 W9 H p q r n (r.propose y) (n+128) A c w1) (hf:Fr No w1 W)=>h1.propose hy oy hf;have hTu:∀y:En,Turns (wh % 10=4) r (r.propose y).1:=fun y=> .inr ⟨by omega,Kept.propose hok y⟩;obtain ⟨k0,k1,k2,k3,k4,k5,k6,k7,k8⟩:=ne
 obtain ⟨s0,s1,s2,s3,s4,s5,s6,s7,s8⟩:=se;unfold En.v at hN hSp hP hR;simp only at hN hSp;clear h h0 hE hE0 hm hne;obtain ⟨HM,HBX,HW0,HG,HF0,HLE,HP,HR,HTU,HN,HSP,HNA⟩:=gY hM hbx hW0 hg hf0 hle hP hR hTu hN hSp hna;have HNS:=O hns;clear hM hbx hW0 hg hf0 hle hP hR hTu hN hSp hna hns
 go_in
 go_upto_region 1 with fail
 rw [←HG.out,←HW0.out]
 go_wp2_with fail
 refine (HM.out _).mono ?_;rintro e w' ⟨rfl,rfl⟩
 go_wp2_with fail
 refine (HN.out _).mono ?_;rintro e w3 ⟨rfl,f3⟩;obtain ⟨W4,hW4⟩:∃W4,W4=w3.alloc (.cells #[.int .i64 k0,.int .i64 k1,.int .i64 k2,.int .i64 k3,.int .i64 k4,.int .i64 k5,.int .i64 k6,.int .i64 k7,.int .i64 k8] dR):=⟨_,rfl⟩;obtain ⟨g7,hg7⟩:∃g7,g7=w3.heap.size:=⟨_,rfl⟩;have hb4:Blk W4 g7 dR #[.int .i64 k0,.int .i64 k1,.int .i64 k2,.int .i64 k3,.int .i64 k4,.int .i64 k5,.int .i64 k6,.int .i64 k7,.int .i64 k8]:=by rw [hW4,hg7];exact Blk.new _ _ _
 have hf4:Fr No W0 W4:=by rw [hW4];exact f3.alloc _
 have hs4:W0.heap.size≤g7:=by rw [hg7];exact f3.size
 clear f3 c0 c1 c2 c3 c4 c5 c6 c7 c8 c9 c10 c11;obtain ⟨HW4,HG7,HF4,HB4⟩:=fK hW4 hg7 hf4 hb4;clear hW4 hg7 hf4 hb4
 go_upto_region 11 with fail
 rw [←HG7.out,←HW4.out];obtain ⟨⟨c0,c1,c2⟩,-⟩:=HBX.out W4 (HF4.out.mono fun _ h=>h.elim)
 by_cases h7:b.tmod 7=0
 ·have g7b:(b.tmod 7 == 0)=true:=by simpa using h7
  clear h7;obtain ⟨z0,z1,z2,z3,z4,z5,z6,z7,z8⟩:=aB HB4.out
  go_wp2_with fail
  refine (HSP.out _).mono ?_;rintro e w5 ⟨rfl,f5⟩;have hb5:Blk w5 g7 dR #[.int .i64 k0,.int .i64 k1,.int .i64 k2,.int .i64 k3,.int .i64 k4,.int .i64 k5,.int .i64 k6,.int .i64 k7,.int .i64 k8]:=HB4.out.fr f5 id;have hf5:Fr No W0 w5:=HF4.out.ah f5;clear f5 z0 z1 z2 z3 z4 z5 z6 z7 z8 c0 c1 c2;obtain ⟨z0,z1,z2,z3,z4,z5,z6,z7,z8⟩:=aB hb5;have y0:=hb5.frozen 0;have y1:=hb5.frozen 1;have y2:=hb5.frozen 2;have y3:=hb5.frozen 3;have y4:=hb5.frozen 4;have y5:=hb5.frozen 5;have y6:=hb5.frozen 6;have y7:=hb5.frozen 7;have y8:=hb5.frozen 8;obtain ⟨W9,hW9⟩:∃W9,W9=World.setCell (World.setCell (World.setCell (World.setCell (World.setCell (World.setCell (World.setCell (World.setCell (World.setCell (w5) ⟨g7,0,none⟩ (.int .i64 s0)) ⟨g7,1,none⟩ (.int .i64 s1)) ⟨g7,2,none⟩ (.int .i64 s2)) ⟨g7,3,none⟩ (.int .i64 s3)) ⟨g7,4,none⟩ (.int .i64 s4)) ⟨g7,5,none⟩ (.int .i64 s5)) ⟨g7,6,none⟩ (.int .i64 s6)) ⟨g7,7,none⟩ (.int .i64 s7)) ⟨g7,8,none⟩ (.int .i64 s8):=⟨_,rfl⟩;have hb9:Blk W9 g7 dR #[.int .i64 s0,.int .i64 s1,.int .i64 s2,.int .i64 s3,.int .i64 s4,.int .i64 s5,.int .i64 s6,.int .i64 s7,.int .i64 s8]:=by rw [hW9];exact wC ⟨s0,s1,s2,s3,s4,s5,s6,s7,s8⟩ hb5
  have hf9:Fr No W0 W9:=by rw [hW9];exact eH ⟨s0,s1,s2,s3,s4,s5,s6,s7,s8⟩ hf5 hs4
  obtain ⟨HW9,HB9,HF9⟩:=bP hW9 hb9 hf9;clear hW9 hb9 hf9;clear hb5 hf5 HB4 HF4 HW4 HG7
  go_upto_region 13 with fail
  rw [←HW9.out];clear y0 y1 y2 y3 y4 y5 y6 y7 y8 z0 z1 z2 z3 z4 z5 z6 z7 z8;have hkk:∀V,Fr H W9 V→V.cell? ⟨g7,0,none⟩=some (.int .i64 s0)∧V.cell? ⟨g7,1,none⟩=some (.int .i64 s1)∧V.cell? ⟨g7,2,none⟩=some (.int .i64 s2)∧V.cell? ⟨g7,3,none⟩=some (.int .i64 s3)∧V.cell? ⟨g7,4,none⟩=some (.int .i64 s4)∧V.cell? ⟨g7,5,none⟩=some (.int .i64 s5)∧V.cell? ⟨g7,6,none⟩=some (.int .i64 s6)∧V.cell? ⟨g7,7,none⟩=some (.int .i64 s7)∧V.cell? ⟨g7,8,none⟩=some (.int .i64 s8):=fun V hV=>let z:=(HB9.out).fr hV (fun hh=>by have:=hl g7 hh;omega);⟨z.cell 0,z.cell 1,z.cell 2,z.cell 3,z.cell 4,z.cell 5,z.cell 6,z.cell 7,z.cell 8⟩;obtain ⟨HP9,HR9,HTU⟩:=bP (fun W=>HP.out W9 HF9.out ⟨s0,s1,s2,s3,s4,s5,s6,s7,s8⟩ HNS.out W) (fun A c w1 W=>HR.out W9 HF9.out ⟨s0,s1,s2,s3,s4,s5,s6,s7,s8⟩ HNS.out A c w1 W) (HTU.out ⟨s0,s1,s2,s3,s4,s5,s6,s7,s8⟩);clear HP HR;generalize r.propose ⟨s0,s1,s2,s3,s4,s5,s6,s7,s8⟩=X at*;generalize r.fH ⟨s0,s1,s2,s3,s4,s5,s6,s7,s8⟩=xx at*;have HF0:=O (HF0.out.ah HF9.out);obtain ⟨x0,x1,x2,x3,x4,x5,x6,x7,x8⟩:=hkk W9 (Fr.refl _ _);have HKK:=O hkk;clear hkk
  go_wp2_with fail
  refine (HP9.out _ (Fr.refl _ _)).mono ?_;rintro e w5 ⟨A5,d5,rfl,q5⟩;have hk5:=HKK.out _ q5.frH;clear x0 x1 x2 x3 x4 x5 x6 x7 x8;obtain ⟨x0,x1,x2,x3,x4,x5,x6,x7,x8⟩:=hk5;have Q5:=O q5;clear q5
  go_wp2_with fail
  refine (HR9.out _ _ _ _ Q5.out (Fr.refl _ _)).mono ?_;rintro e w6 ⟨B6,d6,rfl,q6⟩;have Q6:=O q6;clear q6 Q5;clear x0 x1 x2 x3 x4 x5 x6 x7 x8
  go_wp2_with fail
  refine Q6.out.same.mono ?_;rintro e w7 ⟨rfl,t7⟩;have T7:=O t7;clear t7 Q6
  go_wp2_with fail
  refine T7.out.tT.mono ?_;rintro e w8 ⟨rfl,t8⟩;have T8:=O t8;clear t8 T7
  go_wp2_with fail
  go_ret
  exact ⟨rfl,BTo.of HF0.out T8.out oy HTU.out⟩
 ·have g7b:(b.tmod 7 == 0)=false:=by simpa using h7
  clear h7;have hkk:∀V,Fr H W4 V→V.cell? ⟨g7,0,none⟩=some (.int .i64 k0)∧V.cell? ⟨g7,1,none⟩=some (.int .i64 k1)∧V.cell? ⟨g7,2,none⟩=some (.int .i64 k2)∧V.cell? ⟨g7,3,none⟩=some (.int .i64 k3)∧V.cell? ⟨g7,4,none⟩=some (.int .i64 k4)∧V.cell? ⟨g7,5,none⟩=some (.int .i64 k5)∧V.cell? ⟨g7,6,none⟩=some (.int .i64 k6)∧V.cell? ⟨g7,7,none⟩=some (.int .i64 k7)∧V.cell? ⟨g7,8,none⟩=some (.int .i64 k8):=fun V hV=>let z:=(HB4.out).fr hV (fun hh=>by have:=hl g7 hh;omega);⟨z.cell 0,z.cell 1,z.cell 2,z.cell 3,z.cell 4,z.cell 5,z.cell 6,z.cell 7,z.cell 8⟩;obtain ⟨HP9,HR9,HTU⟩:=bP (fun W=>HP.out W4 HF4.out ⟨k0,k1,k2,k3,k4,k5,k6,k7,k8⟩ HNA.out W) (fun A c w1 W=>HR.out W4 HF4.out ⟨k0,k1,k2,k3,k4,k5,k6,k7,k8⟩ HNA.out A c w1 W) (HTU.out ⟨k0,k1,k2,k3,k4,k5,k6,k7,k8⟩);clear HP HR;generalize r.propose ⟨k0,k1,k2,k3,k4,k5,k6,k7,k8⟩=X at*;generalize r.fH ⟨k0,k1,k2,k3,k4,k5,k6,k7,k8⟩=xx at*;have HF0:=O (HF0.out.ah HF4.out);obtain ⟨x0,x1,x2,x3,x4,x5,x6,x7,x8⟩:=hkk W4 (Fr.refl _ _);have HKK:=O hkk;clear hkk
  go_wp2_with fail
  refine (HP9.out _ (Fr.refl _ _)).mono ?_;rintro e w5 ⟨A5,d5,rfl,q5⟩;have hk5:=HKK.out _ q5.frH;clear x0 x1 x2 x3 x4 x5 x6 x7 x8;obtain ⟨x0,x1,x2,x3,x4,x5,x6,x7,x8⟩:=hk5;have Q5:=O q5;clear q5
  go_wp2_with fail
  refine (HR9.out _ _ _ _ Q5.out (Fr.refl _ _)).mono ?_;rintro e w6 ⟨B6,d6,rfl,q6⟩;have Q6:=O q6;clear q6 Q5;clear x0 x1 x2 x3 x4 x5 x6 x7 x8
  go_wp2_with fail
  refine Q6.out.same.mono ?_;rintro e w7 ⟨rfl,t7⟩;have T7:=O t7;clear t7 Q6
  go_wp2_with fail
  refine T7.out.tT.mono ?_;rintro e w8 ⟨rfl,t8⟩;have T8:=O t8;clear t8 T7
  go_wp2_with fail
  go_ret
  exact ⟨rfl,BTo.of HF0.out T8.out oy HTU.out⟩
end Go.Proofs.YtjnfmfmglehmbaaGreat
