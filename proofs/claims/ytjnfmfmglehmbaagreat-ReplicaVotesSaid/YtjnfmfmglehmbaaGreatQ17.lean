/-
  Journals whose bytes are the records of what they remember: the calls, without the bytes.
-/
import Derived.Test.YtjnfmfmglehmbaaGreatQ16
namespace Go.Proofs.YtjnfmfmglehmbaaGreat
open Go.ChangeShapes Go.WideShapes Go.ChangeAt Go.RowKit
set_option linter.unusedVariables false
set_option maxRecDepth 100000
set_option maxHeartbeats 4000000
section
def JG (y:Bool)(w:World)(F:Nat→Prop)(j:Nat)(s:Js)(n:Nat):Prop:=
 ∃d xs k rs,JAt w F j d xs k s∧Good xs s rs∧s.log.length≤4096∧xs.length≤n∧(y=true→k=xs.length)
def eZ (y:Bool)(w:World)(F:Nat→Prop)(j:Nat)(s:Js)(n:Nat)(w' :World):Prop:=
 ∃F',JG y w' F' j s n∧(∀i,F' i→F i∨w.heap.size≤i)∧Fr F w w'
section
variable {y:Bool}{w w' w1:World}{F G:Nat→Prop}{j:Nat}{s s' :Js}{n m:Nat}
theorem JG.fr (h:JG y w F j s n)(hf:Fr G w w')(hd:∀i,F i→¬G i):JG y w' F j s n:=by
 obtain ⟨d,xs,k,rs,h1,h2⟩:=h;exact ⟨d,xs,k,rs,h1.fr hf hd,h2⟩
theorem JG.ak (h:JG y w F j s n)(hf:Fr No w w'):JG y w' F j s n:=h.fr hf fun _ _ hi=>hi
theorem JG.lt (h:JG y w F j s n):∀i,F i→i<w.heap.size:=by
 obtain ⟨d,xs,k,rs,h1,h2⟩:=h;exact h1.lt
theorem JG.more (h:JG y w F j s n)(hn:n≤m):JG y w F j s m:=by
 obtain ⟨d,xs,k,rs,h1,h2,h3,h4,h5⟩:=h;exact ⟨d,xs,k,rs,h1,h2,h3,Nat.le_trans h4 hn,h5⟩
theorem JG.few (h:JG y w F j s n):s.log.length≤4096:=by
 obtain ⟨d,xs,k,rs,h1,h2,h3,h4,h5⟩:=h;exact h3
theorem JG.weak (h:JG y w F j s n):JG false w F j s n:=by
 obtain ⟨d,xs,k,rs,h1,h2,h3,h4,h5⟩:=h;exact ⟨d,xs,k,rs,h1,h2,h3,h4,fun h=>by cases h⟩
theorem JG.self (h:JG y w F j s n):eZ y w F j s n w:=⟨F,h,fun _ hi=> .inl hi,Fr.refl _ _⟩
theorem JG.still (h:JG y w F j s n)(hf:Fr No w w'):eZ y w F j s n w' :=⟨F,h.ak hf,fun _ hi=> .inl hi,hf.mono fun _ hi=>hi.elim⟩
theorem eZ.trans {y' :Bool}(h:eZ y w F j s n w1)(h2:∀F',JG y w1 F' j s n→eZ y' w1 F' j s' m w'):eZ y' w F j s' m w' :=by
 obtain ⟨F1,h3,h4,h5⟩:=h;obtain ⟨F2,g3,g4,g5⟩:=h2 F1 h3;refine ⟨F2,g3,fun i hi=> ?_,h5.trans g5 h4⟩
 rcases g4 i hi with h|h
 ·exact h4 i h
 ·exact .inr (Nat.le_trans h5.size h)
theorem eZ.own {w0:World}(h:eZ y w1 F j s n w')(hf:Fr No w0 w1)(hN:∀i,F i→w0.heap.size≤i):∃F',JG y w' F' j s n∧(∀i,F' i→w0.heap.size≤i)∧Fr No w0 w' :=by
 obtain ⟨F',g1,g2,g3⟩:=h;exact ⟨F',g1,fun i hi=>(g2 i hi).elim (fun h=>hN i h) (fun h=>Nat.le_trans hf.size h),hf.aA g3 hN⟩
theorem eZ.of {d:Nat}{xs:List UInt8}{k:Nat}{rs:List (List UInt8)}(h:JTo w F j d xs k s w')(hg:Good xs s rs)(hl:s.log.length≤4096)(hn:xs.length≤n)(hy:y=true→k=xs.length):eZ y w F j s n w' :=by
 obtain ⟨F',g1,g2,g3⟩:=h;exact ⟨F',⟨d,xs,k,rs,g1,hg,hl,hn,hy⟩,g2,g3⟩
theorem oC (s:Js)(t v:Int):(bC s t v).log=s.log:=by unfold bC;split<;>rfl
theorem yL {t v:Int}(h:bB s t v=0):(zY t v).length≤30:=by
 have hb:=wT h;have:=iM [1,t,v] (by
  intro x hx;simp only [List.mem_cons,List.not_mem_nil,or_false] at hx
  rcases hx with rfl|rfl|rfl<;>omega)
 simpa [zY] using this
theorem yM {t:Int}{e:En}(he:e.ok)(h:iB s t e=0):(yN t e).length≤110:=by
 have hb:=mF h;have l2:=iM [2,t] (by
  intro x hx;simp only [List.mem_cons,List.not_mem_nil,or_false] at hx
  rcases hx with rfl|rfl<;>omega)
 have l3:=yg e he;unfold yN;rw [List.length_append]
 simp at l2
 omega
theorem yO {c:Int}(hl:s.log.length≤4096)(h:jg s c=0):(recC c).length≤20:=by
 have hb:=yj h;have l2:=iM [3,c] (by
  intro x hx;simp only [List.mem_cons,List.not_mem_nil,or_false] at hx
  rcases hx with rfl|rfl<;>omega)
 simpa [recC] using l2
end
section
variable {y:Bool}{w w' w1:World}{F G:Nat→Prop}{j:Nat}{s:Js}{n:Nat}
theorem aoh (w:World):
  Calls Tryz.prog 31 #[] w fun e w' =>∃j F,e= .returned (.pointer (some ⟨j,0,none⟩))∧JG true w' F j iZ 0∧(∀i,F i→w.heap.size≤i)∧Fr No w w' :=by
 refine (anv w).mono ?_;rintro e w' ⟨j,d,F,h1,h2,h3,h4⟩;exact ⟨j,F,h1,⟨d,[],0,[],h2,Good.new,by decide,Nat.le_refl _,fun _=>rfl⟩,h3,h4⟩
theorem amb (h:JG y w F j s n):Calls Tryz.prog 37 #[.pointer (some ⟨j,0,none⟩)] w fun e w' =>e= .returned (.int .i64 s.term)∧w=w' :=by
 obtain ⟨d,xs,k,rs,h1,h2⟩:=h;exact ak8 h1
theorem ama (h:JG y w F j s n):Calls Tryz.prog 38 #[.pointer (some ⟨j,0,none⟩)] w fun e w' =>e= .returned (.int .i64 s.cu)∧w=w' :=by
 obtain ⟨d,xs,k,rs,h1,h2⟩:=h;exact ak7 h1
theorem aoi (h:JG y w F j s n):Calls Tryz.prog 114 #[.pointer (some ⟨j,0,none⟩)] w fun e w' =>e= .returned (.int .i64 (s.log.length:Int))∧w=w' :=by
 obtain ⟨d,xs,k,rs,h1,h2⟩:=h;exact anw h1
theorem ar7 (h:JG y w F j s n)(i:Int):Calls Tryz.prog 113 #[.pointer (some ⟨j,0,none⟩),.int .i64 i] w fun e w' =>e= .returned (.tuple #[(atJ s.log i).1.v,.bool (atJ s.log i).2])∧Fr No w w' :=by
 obtain ⟨d,xs,k,rs,h1,h2⟩:=h;exact apl h1 i
theorem mY (h:JG y w F j s n)(i:Int):Calls Tryz.prog 120 #[.pointer (some ⟨j,0,none⟩),.int .i64 i] w fun e w' =>e= .returned (.int .i64 (aD s.log i))∧Fr No w w' :=by
 obtain ⟨d,xs,k,rs,h1,h2⟩:=h;exact zk h1 i
theorem ad5 (h:JG y w F j s n)(t v:Int)(hsz:n+200≤140737488355328):
  Calls Tryz.prog 119 #[.pointer (some ⟨j,0,none⟩),.int .i64 t,.int .i64 v] w fun e w' =>e= .returned (.int .i64 (bB s t v))∧eZ false w F j (bC s t v) (n+48) w' :=by
 obtain ⟨d,xs,k,rs,h1,h2,h3,h4,h5⟩:=h;refine (adt h1 t v oy).mono ?_;rintro e w' ⟨rfl,j2⟩;refine ⟨rfl,?_⟩
 by_cases h0:bB s t v=0
 ·rw [if_pos h0] at j2
  have hr:=yL h0;have hp:=dX 8 (zY t v) oy;exact eZ.of j2 (h2.snoc (zY t v) oy (qc s t v h0)) (by rw [oC];exact h3) (by rw [List.length_append];omega) (fun h=>by cases h)
 ·rw [if_neg h0,gG h0] at j2
  rw [gG h0];exact eZ.of j2 h2 h3 oy (fun h=>by cases h)
theorem uH (h:JG y w F j s n)(t:Int)(e:En)(he:e.ok)(hsz:n+200≤140737488355328):
  Calls Tryz.prog 86 #[.pointer (some ⟨j,0,none⟩),.int .i64 t,e.v] w fun r w' =>r= .returned (.int .i64 (iB s t e))∧eZ false w F j (gT s t e) (n+128) w' :=by
 obtain ⟨d,xs,k,rs,h1,h2,h3,h4,h5⟩:=h;refine (zl h1 h3 t e he oy).mono ?_;rintro r w' ⟨rfl,j2⟩;refine ⟨rfl,?_⟩
 by_cases h0:iB s t e=0
 ·rw [if_pos h0] at j2
  have hr:=yM he h0;have hp:=dX 8 (yN t e) oy;have hb:=mF h0;exact eZ.of j2 (h2.snoc (yN t e) oy (oG s t e he h0)) (by unfold gT;rw [if_pos h0];simp only [List.length_append,List.length_singleton];omega) (by rw [List.length_append];omega) (fun h=>by cases h)
 ·rw [if_neg h0,gJ h0] at j2
  rw [gJ h0];exact eZ.of j2 h2 h3 oy (fun h=>by cases h)
theorem aoj (h:JG y w F j s n)(c:Int)(hsz:n+200≤140737488355328):
  Calls Tryz.prog 169 #[.pointer (some ⟨j,0,none⟩),.int .i64 c] w fun r w' =>r= .returned (.int .i64 (jg s c))∧eZ false w F j (jP s c) (n+38) w' :=by
 obtain ⟨d,xs,k,rs,h1,h2,h3,h4,h5⟩:=h;refine (anx h1 c h3 oy).mono ?_;rintro r w' ⟨rfl,j2⟩;refine ⟨rfl,?_⟩
 by_cases h0:jg s c=0
 ·rw [if_pos h0] at j2
  have hr:=yO h3 h0;have hp:=dX 8 (recC c) oy;exact eZ.of j2 (h2.snoc (recC c) oy (sM s c h3 h0)) (by unfold jP;rw [if_pos h0];simp only [List.length_take];omega) (by rw [List.length_append];omega) (fun h=>by cases h)
 ·rw [if_neg h0,nY h0] at j2
  rw [nY h0];exact eZ.of j2 h2 h3 oy (fun h=>by cases h)
theorem zB (h:JG y w F j s n):
  Calls Tryz.prog 87 #[.pointer (some ⟨j,0,none⟩)] w fun e w' =>e= .returned (.tuple #[])∧eZ true w F j s n w' :=by
 obtain ⟨d,xs,k,rs,h1,h2,h3,h4,h5⟩:=h;refine (ak9 h1).mono ?_;rintro r w' ⟨rfl,j2⟩;exact ⟨rfl,eZ.of j2 h2 h3 h4 (fun _=>rfl)⟩
theorem ai9 (h:JG true w F j s n)(keep:Int):
  Calls Tryz.prog 98 #[.pointer (some ⟨j,0,none⟩),.int .i64 keep] w fun e w' =>e= .returned (.tuple #[])∧eZ true w F j s n w' :=by
 obtain ⟨d,xs,k,rs,h1,h2,h3,h4,h5⟩:=h;have hc:bJ xs.length k keep=xs.length:=by rw [h5 rfl];unfold bJ;omega
 refine (aiv h1 keep).mono ?_;rintro r w' ⟨rfl,j2⟩;rw [hc,List.take_length,h2.play] at j2;simp only [List.take_length,Nat.min_self] at j2;exact ⟨rfl,eZ.of j2 h2 h3 h4 (fun _=>rfl)⟩
end
end
section
abbrev abb:TypeId:=77
abbrev TMs:TypeId:=37
abbrev eP (j:Nat)(r:Rs)(bits:Int)(nx mt:Nat→Int):Array Value:=
 #[.pointer (some ⟨j,0,none⟩),.int .i64 r.id,.int .i64 r.n,.int .i64 r.role,.int .i64 r.commit,.int .i64 bits,.int .i64 (nx 0),.int .i64 (nx 1),.int .i64 (nx 2),.int .i64 (nx 3),.int .i64 (nx 4),.int .i64 (mt 0),.int .i64 (mt 1),.int .i64 (mt 2),.int .i64 (mt 3),.int .i64 (mt 4)]
def aml (r:Rs)(bits:Int)(nx mt:Nat→Int):Prop:=(r.role=2→bits=r.aY)∧(r.role=3→∀i,i<r.n→nx i=r.next i∧mt i=r.cO i)
def RAt (w:World)(F:Nat→Prop)(p:Nat)(r:Rs)(n:Nat):Prop:=
 ∃j Fj bits nx mt,Blk w p abb (eP j r bits nx mt)∧F p∧JG true w Fj j r.js n∧(∀i,Fj i→F i)∧¬Fj p∧(∀i,F i→i<w.heap.size)∧aml r bits nx mt∧bU r
def RTo (w:World)(F:Nat→Prop)(p:Nat)(r:Rs)(n:Nat)(w' :World):Prop:=
 ∃F',RAt w' F' p r n∧(∀i,F' i→F i∨w.heap.size≤i)∧Fr F w w'
section
variable {w w' w1:World}{F G:Nat→Prop}{p:Nat}{r r' :Rs}{n m:Nat}
theorem RAt.fr (h:RAt w F p r n)(hf:Fr G w w')(hd:∀i,F i→¬G i):RAt w' F p r n:=by
 obtain ⟨j,Fj,bits,nx,mt,h1,h2,h3,h4,h5,h6,h7⟩:=h;exact ⟨j,Fj,bits,nx,mt,h1.fr hf (hd p h2),h2,h3.fr hf fun i hi=>hd i (h4 i hi),h4,h5,fun i hi=>nll (h6 i hi) hf.size,h7⟩
theorem RAt.ak (h:RAt w F p r n)(hf:Fr No w w'):RAt w' F p r n:=h.fr hf fun _ _ hi=>hi
theorem RAt.lt (h:RAt w F p r n):∀i,F i→i<w.heap.size:=by
 obtain ⟨j,Fj,bits,nx,mt,h1,h2,h3,h4,h5,h6,h7⟩:=h;exact h6
theorem RAt.ok (h:RAt w F p r n):bU r:=by
 obtain ⟨j,Fj,bits,nx,mt,h1,h2,h3,h4,h5,h6,h7,h8⟩:=h;exact h8
theorem RAt.more (h:RAt w F p r n)(hn:n≤m):RAt w F p r m:=by
 obtain ⟨j,Fj,bits,nx,mt,h1,h2,h3,h4⟩:=h;exact ⟨j,Fj,bits,nx,mt,h1,h2,h3.more hn,h4⟩
theorem RAt.self (h:RAt w F p r n):RTo w F p r n w:=⟨F,h,fun _ hi=> .inl hi,Fr.refl _ _⟩
theorem RAt.still (h:RAt w F p r n)(hf:Fr No w w'):RTo w F p r n w' :=⟨F,h.ak hf,fun _ hi=> .inl hi,hf.mono fun _ hi=>hi.elim⟩
theorem RTo.trans (h:RTo w F p r n w1)(h2:∀F',RAt w1 F' p r n→RTo w1 F' p r' m w'):RTo w F p r' m w' :=by
 obtain ⟨F1,h3,h4,h5⟩:=h;obtain ⟨F2,g3,g4,g5⟩:=h2 F1 h3;refine ⟨F2,g3,fun i hi=> ?_,h5.trans g5 h4⟩
 rcases g4 i hi with h|h
 ·exact h4 i h
 ·exact .inr (Nat.le_trans h5.size h)
theorem RTo.quiet (h:RTo w F p r n w1)(hf:Fr No w1 w'):RTo w F p r n w' :=h.trans fun _ h=>h.still hf
theorem RTo.after (hf:Fr No w w1)(h:RTo w1 F p r n w'):RTo w F p r n w' :=by
 obtain ⟨F',h1,h2,h3⟩:=h;exact ⟨F',h1,fun i hi=>(h2 i hi).imp id (Nat.le_trans hf.size),(hf.mono (G:=F) fun _ hi=>hi.elim).trans h3 fun i hi=> .inl hi⟩
theorem RTo.more (h:RTo w F p r n w')(hn:n≤m):RTo w F p r m w' :=by
 obtain ⟨F',h1,h2⟩:=h;exact ⟨F',h1.more hn,h2⟩
theorem RTo.own {w0:World}(h:RTo w1 F p r n w')(hf:Fr No w0 w1)(hN:∀i,F i→w0.heap.size≤i):∃F',RAt w' F' p r n∧(∀i,F' i→w0.heap.size≤i)∧Fr No w0 w' :=by
 obtain ⟨F',g1,g2,g3⟩:=h;exact ⟨F',g1,fun i hi=>(g2 i hi).elim (fun h=>hN i h) (fun h=>Nat.le_trans hf.size h),hf.aA g3 hN⟩
theorem RAt.jrn {j:Nat}{Fj:Nat→Prop}{bits:Int}{nx mt:Nat→Int}{s' :Js}(h1:Blk w p abb (eP j r bits nx mt))(h2:F p)(h4:∀i,Fj i→F i)(h5:¬Fj p)(h6:∀i,F i→i<w.heap.size)(h7:aml r bits nx mt)
  (hj:eZ true w Fj j s' m w') (hr:bU {r with js:=s'}):RTo w F p {r with js:=s'} m w' :=by
 obtain ⟨Fj',g1,g2,g3⟩:=hj;have hpl:=h6 p h2;refine ⟨fun i=>F i∨(w.heap.size≤i∧i<w'.heap.size),⟨j,Fj',bits,nx,mt,h1.fr g3 h5,.inl h2,g1,fun i hi=> ?_,fun hi=> ?_,fun i hi=> ?_,h7,hr⟩,fun i hi=> ?_,g3.mono h4⟩
 ·rcases g2 i hi with h|h
  ·exact .inl (h4 i h)
  ·exact .inr ⟨h,g1.lt i hi⟩
 ·rcases g2 p hi with h|h
  ·exact h5 h
  ·omega
 ·rcases hi with h|h
  ·exact nll (h6 i h) g3.size
  ·exact h.2
 ·rcases hi with h|h
  ·exact .inl h
  ·exact .inr h.1
theorem RAt.cells {j:Nat}{Fj:Nat→Prop}{bits' :Int}{nx' mt' :Nat→Int}(h2:F p)(h3:JG true w Fj j r.js n)(h4:∀i,Fj i→F i)(h5:¬Fj p)(h6:∀i,F i→i<w.heap.size)
  (hf:Fr (fun i=>i=p) w w') (hb:Blk w' p abb (eP j r' bits' nx' mt')) (hjs:r'.js=r.js) (h7:aml r' bits' nx' mt') (hr:bU r'):RTo w F p r' n w' :=by
 refine ⟨F,⟨j,Fj,bits',nx',mt',hb,h2,?_,h4,h5,fun i hi=>nll (h6 i hi) hf.size,h7,hr⟩,fun i hi=> .inl hi,hf.mono fun i hi=>hi▸h2⟩;rw [hjs];exact h3.fr hf fun i hi he=>h5 (he▸hi)
end
abbrev Ms.v (m:Ms)(v:Value):Value:= .agg #[.int .i64 m.kind,.int .i64 m.from_,.int .i64 m.to_,.int .i64 m.term,.int .i64 m.index,.int .i64 m.prev,.int .i64 m.commit,.bool m.ok,v]
def Ms.cells (m:Ms)(v:Value):List Value:=[.int .i64 m.kind,.int .i64 m.from_,.int .i64 m.to_,.int .i64 m.term,.int .i64 m.index,.int .i64 m.prev,.int .i64 m.commit,.bool m.ok,v]
def Ent (w:World)(G:Nat→Prop)(v:Value)(es:List Lg):Prop:=
 ∃A c,v= .slice A es.length c∧(A=none→es.length=0)∧es.length≤c∧c≤maxLen∧(es=[]∨∃b off,A=some ⟨b,off,none⟩∧G b∧b<w.heap.size∧∀k,(h:k<(dD es).length)→w.cell? ⟨b,off+k,none⟩=some (dD es)[k])
theorem Ent.fr {w w' :World}{F G:Nat→Prop}{v:Value}{es:List Lg}(h:Ent w G v es)(hf:Fr F w w')(hd:∀i,G i→¬F i):Ent w' G v es:=by
 obtain ⟨A,c,h1,h2,h3,h4,h5⟩:=h;refine ⟨A,c,h1,h2,h3,h4,h5.imp id ?_⟩;rintro ⟨b,off,e1,e2,e3,e4⟩;exact ⟨b,off,e1,e2,nll e3 hf.size,fun k hk=>(hf.cell (p:=⟨b,off+k,none⟩) e3 (hd b e2)).trans (e4 k hk)⟩
theorem Ent.ak {w w' :World}{G:Nat→Prop}{v:Value}{es:List Lg}(h:Ent w G v es)(hf:Fr No w w'):Ent w' G v es:=h.fr hf fun _ _ hi=>hi
theorem Ent.mono {w:World}{G H:Nat→Prop}{v:Value}{es:List Lg}(h:Ent w G v es)(hGH:∀i,G i→H i):Ent w H v es:=by
 obtain ⟨A,c,h1,h2,h3,h4,h5⟩:=h;exact ⟨A,c,h1,h2,h3,h4,h5.imp id fun ⟨b,off,e1,e2,e3⟩=>⟨b,off,e1,hGH b e2,e3⟩⟩
theorem Ent.iW {w:World}{G:Nat→Prop}{v:Value}{es:List Lg}(h:bG w G TLg 10 v es.length (dD es)):Ent w G v es:=by
 obtain ⟨A,c,rfl,hn⟩:=h.form;obtain ⟨h1,h2⟩:=h.cap;refine ⟨A,c,rfl,hn,h1,h2,?_⟩
 rcases Nat.eq_zero_or_pos es.length with h0|h0
 ·exact .inl (List.eq_nil_of_length_eq_zero h0)
 ·obtain ⟨b,rfl,h3,h4,h5⟩:=h.head h0
  exact .inr ⟨b,0,rfl,h4,h3,fun k hk=>by rw [Nat.zero_add,h5 k hk,List.getElem?_eq_getElem hk]⟩
theorem Ent.nil (w:World)(G:Nat→Prop):Ent w G (.slice none 0 0) []:=⟨none,0,rfl,fun _=>rfl,Nat.le_refl _,by unfold maxLen;omega,.inl rfl⟩
theorem Ent.rd {w:World}{G:Nat→Prop}{A:Option Addr}{n c:Nat}{es:List Lg}(h:Ent w G (.slice A n c) es):n=es.length∧(A=none→n=0)∧n≤c∧c≤maxLen∧Rd w w.heap.size A (dD es):=by
 obtain ⟨A',c',h1,h2,h3,h4,h5⟩:=h;injection h1 with e1 e2 e3;subst e1 e2 e3;refine ⟨rfl,h2,h3,h4,?_⟩
 rcases h5 with rfl|⟨b,off,e1,e2,e3,e4⟩
 ·exact .inl rfl
 ·exact .inr ⟨b,off,e1,e3,e4⟩
def msV:List Ms→List Value→List Value
 |m :: ms,v :: vs=>m.cells v++msV ms vs
 |_,_=>[]
theorem qA:∀(ms:List Ms) (vs:List Value),vs.length=ms.length→(msV ms vs).length=ms.length*9:=by
 intro ms
 induction ms with
 |nil=>intro vs _;cases vs<;>rfl
 |cons m ms ih=>
  intro vs h
  rcases vs with _|⟨v,vs⟩
  ·simp at h
  ·simp only [msV,List.length_append,List.length_cons]
   rw [ih vs (by simpa using h),Nat.succ_mul]
   simp [Ms.cells]
   omega
theorem uw:∀(ms:List Ms) (vs:List Value) (m:Ms) (v:Value),vs.length=ms.length→msV (ms++[m]) (vs++[v])=msV ms vs++m.cells v:=by
 intro ms
 induction ms with
 |nil=>
  intro vs m v h;obtain rfl:vs=[]:=List.eq_nil_of_length_eq_zero (by simpa using h)
  simp [msV]
 |cons x ms ih=>
  intro vs m v h
  rcases vs with _|⟨y,vs⟩
  ·simp at h
  ·simp only [List.cons_append,msV,List.append_assoc]
   rw [ih vs m v (by simpa using h)]
structure gB (w:World) (Gs Ge:Nat→Prop) (v:Value) (ms:List Ms) (vs:List Value):Prop where
 own:bG w Gs TMs 9 v ms.length (msV ms vs)
 len:vs.length=ms.length
 each:∀(i:Nat) (m:Ms) (x:Value),ms[i]? =some m→vs[i]? =some x→Ent w Ge x m.es
 apart:∀i,Gs i→¬Ge i
 ltS:∀i,Gs i→i<w.heap.size
 ltE:∀i,Ge i→i<w.heap.size
def bF (w:World)(G:Nat→Prop)(v:Value)(ms:List Ms):Prop:=∃Gs Ge vs,gB w Gs Ge v ms vs∧(∀i,Gs i→G i)∧∀i,Ge i→G i
theorem gB.fr {w w' :World}{F Gs Ge:Nat→Prop}{v:Value}{ms:List Ms}{vs:List Value}(h:gB w Gs Ge v ms vs)(hf:Fr F w w')(hs:∀i,Gs i→¬F i)(he:∀i,Ge i→¬F i):gB w' Gs Ge v ms vs:=
 ⟨h.own.fr' hf fun g hg=>hs g (h.own.2 g hg),h.len,fun i m x hm hx=>(h.each i m x hm hx).fr hf he,h.apart,fun i hi=>nll (h.ltS i hi) hf.size,fun i hi=>nll (h.ltE i hi) hf.size⟩
theorem gB.ak {w w' :World}{Gs Ge:Nat→Prop}{v:Value}{ms:List Ms}{vs:List Value}(h:gB w Gs Ge v ms vs)(hf:Fr No w w'):gB w' Gs Ge v ms vs:=h.fr hf (fun _ _ hi=>hi) (fun _ _ hi=>hi)
theorem bF.fr {w w' :World}{F G:Nat→Prop}{v:Value}{ms:List Ms}(h:bF w G v ms)(hf:Fr F w w')(hd:∀i,G i→¬F i):bF w' G v ms:=by
 obtain ⟨Gs,Ge,vs,h1,h2,h3⟩:=h;exact ⟨Gs,Ge,vs,h1.fr hf (fun i hi=>hd i (h2 i hi)) (fun i hi=>hd i (h3 i hi)),h2,h3⟩
theorem bF.ak {w w' :World}{G:Nat→Prop}{v:Value}{ms:List Ms}(h:bF w G v ms)(hf:Fr No w w'):bF w' G v ms:=h.fr hf fun _ _ hi=>hi
theorem bF.nil (w:World)(G:Nat→Prop):bF w G (.slice none 0 0) []:=
 ⟨No,No,[],⟨bG.nil _ _ _ _,rfl,fun i m x hm=>by simp at hm,fun _ h=>h.elim,fun _ h=>h.elim,fun _ h=>h.elim⟩,fun _ h=>h.elim,fun _ h=>h.elim⟩
theorem bF.mono {w:World}{G H:Nat→Prop}{v:Value}{ms:List Ms}(h:bF w G v ms)(hGH:∀i,G i→H i):bF w H v ms:=by
 obtain ⟨Gs,Ge,vs,h1,h2,h3⟩:=h;exact ⟨Gs,Ge,vs,h1,fun i hi=>hGH i (h2 i hi),fun i hi=>hGH i (h3 i hi)⟩
theorem Ent.lt {w:World}{G:Nat→Prop}{v:Value}{es:List Lg}(h:Ent w G v es):Ent w (fun i=>G i∧i<w.heap.size) v es:=by
 obtain ⟨A,c,h1,h2,h3,h4,h5⟩:=h;exact ⟨A,c,h1,h2,h3,h4,h5.imp id fun ⟨b,off,e1,e2,e3,e4⟩=>⟨b,off,e1,⟨e2,e3⟩,e3,e4⟩⟩
theorem sS (m:Ms){w:World}{G:Nat→Prop}{x:Value}(hx:Ent w G x m.es):∀u∈m.cells x,u.oneCell' =true:=by
 obtain ⟨A,c,rfl,-⟩:=hx;intro u hu;simp only [Ms.cells,List.mem_cons,List.not_mem_nil,or_false] at hu
 rcases hu with rfl|rfl|rfl|rfl|rfl|rfl|rfl|rfl|rfl<;>rfl
theorem gB.snoc {W W2 W3:World}{G Gs Ge:Nat→Prop}{v v' x:Value}{ms:List Ms}{vs:List Value}{m:Ms}(h:gB W Gs Ge v ms vs)(hG:∀i,W.heap.size≤i→G i)(hs:∀i,Gs i→G i)(he:∀i,Ge i→G i)(hf:Fr No W W2)(hx:Ent W2 (fun b=>W.heap.size≤b) x m.es)
  (ha:bN W2 0 TMs 9 v ms.length (msV ms vs) (m.cells x) 1 v' W3):bF W3 G v' (ms++[m])∧Fr (fun i=>Gs i) W2 W3:=by
 obtain ⟨o1,f1⟩:=(h.own.ak hf).appended ha;have hsz:=hf.size;have hsz2:=f1.size;refine ⟨⟨fun i=>Gs i∨(i=W2.heap.size∧i<W3.heap.size),fun i=>Ge i∨(W.heap.size≤i∧i<W2.heap.size),vs++[x],⟨?_,by simp [h.len],fun i m' x' hm hx' => ?_,fun i hi hh=> ?_,fun i hi=> ?_,fun i hi=> ?_⟩,fun i hi=> ?_,fun i hi=> ?_⟩,f1⟩
 ·rw [uw _ _ _ _ h.len,List.length_append,List.length_singleton]
  exact o1
 ·rcases Nat.lt_or_ge i ms.length with hi|hi
  ·rw [List.getElem?_append_left hi] at hm
   rw [List.getElem?_append_left (by rw [h.len];exact hi)] at hx';exact (((h.each i m' x' hm hx').ak hf).fr f1 fun k hk hh=>h.apart k hh hk).mono fun k hk=> .inl hk
  ·rw [List.getElem?_append_right hi] at hm
   rw [List.getElem?_append_right (by rw [h.len];exact hi)] at hx';have hi0:i-ms.length=0:=by
    have:=(List.getElem?_eq_some_iff.1 hm).1
    simp at this;omega
   rw [hi0] at hm;rw [h.len,hi0] at hx'
   simp at hm hx'
   subst hm hx';exact (hx.lt.fr f1 fun k hk hh=>by have:=h.ltS k hh;have:=hk.1;omega).mono fun k hk=> .inr hk
 ·rcases hi with hi|hi
  ·rcases hh with hh|hh
   ·exact h.apart i hi hh
   ·have:=h.ltS i hi;omega
  ·rcases hh with hh|hh
   ·have:=h.ltE i hh;omega
   ·omega
 ·rcases hi with hi|hi
  ·have:=h.ltS i hi;omega
  ·exact hi.2
 ·rcases hi with hi|hi
  ·have:=h.ltE i hi;omega
  ·omega
 ·rcases hi with hi|hi
  ·exact hs i hi
  ·exact hG i oy
 ·rcases hi with hi|hi
  ·exact he i hi
  ·exact hG i hi.1
end
section
theorem mD {w:World}{b o:Nat}{v:Value}(h:w.cell? ⟨b,o,none⟩=some v):b<w.heap.size:=by
 unfold World.cell? at h
 rcases Nat.lt_or_ge b w.heap.size with hlt|hge
 ·exact hlt
 ·simp [Array.getElem?_eq_none hge] at h
def RJ (w:World)(p:Nat)(s:Js)(n:Nat):Prop:=∃j Fj,w.cell? ⟨p,0,none⟩=some (.pointer (some ⟨j,0,none⟩))∧JG true w Fj j s n∧¬Fj p
section
variable {w w' :World}{F:Nat→Prop}{p:Nat}{r:Rs}{s:Js}{n:Nat}
theorem RAt.rj (h:RAt w F p r n):RJ w p r.js n:=by
 obtain ⟨j,Fj,bits,nx,mt,h1,h2,h3,h4,h5,h6,h7⟩:=h;exact ⟨j,Fj,h1.cell 0,h3,h5⟩
theorem RJ.ak (h:RJ w p s n)(hf:Fr No w w'):RJ w' p s n:=by
 obtain ⟨j,Fj,h1,h2,h3⟩:=h;exact ⟨j,Fj,(hf.cell (p:=⟨p,0,none⟩) (mD h1) id).trans h1,h2.ak hf,h3⟩
theorem vO (h:RAt w F p r n):Calls Tryz.prog 36 #[.pointer (some ⟨p,0,none⟩)] w fun e w' =>e= .returned (.int .i64 r.role)∧w=w' :=by
 obtain ⟨j,Fj,bits,nx,mt,h1,-⟩:=h;have c3:w.cell? ⟨p,3,none⟩=some (.int .i64 r.role):=h1.cell 3;clear h1
 go_in
 go_wp2_with fail
 go_ret
 exact ⟨rfl,rfl⟩
theorem kM (h:RAt w F p r n):Calls Tryz.prog 14 #[.pointer (some ⟨p,0,none⟩)] w fun e w' =>e= .returned (.int .i64 (r.commit:Int))∧w=w' :=by
 obtain ⟨j,Fj,bits,nx,mt,h1,-⟩:=h;have c3:w.cell? ⟨p,4,none⟩=some (.int .i64 (r.commit:Int)):=h1.cell 4;clear h1
 go_in
 go_wp2_with fail
 go_ret
 exact ⟨rfl,rfl⟩
theorem iq (h:RJ w p s n):Calls Tryz.prog 12 #[.pointer (some ⟨p,0,none⟩)] w fun e w' =>e= .returned (.int .i64 s.term)∧w=w' :=by
 obtain ⟨j,Fj,c0,h3,-⟩:=h;have hg:=amb h3;clear h3;have HG:=O hg;clear hg
 go_in
 go_wp2_with fail
 refine HG.out.mono ?_;rintro e w' ⟨rfl,rfl⟩
 go_wp2_with fail
 go_ret
 exact ⟨rfl,rfl⟩
theorem yS (h:RJ w p s n):Calls Tryz.prog 13 #[.pointer (some ⟨p,0,none⟩)] w fun e w' =>e= .returned (.int .i64 s.cu)∧w=w' :=by
 obtain ⟨j,Fj,c0,h3,-⟩:=h;have hg:=ama h3;clear h3;have HG:=O hg;clear hg
 go_in
 go_wp2_with fail
 refine HG.out.mono ?_;rintro e w' ⟨rfl,rfl⟩
 go_wp2_with fail
 go_ret
 exact ⟨rfl,rfl⟩
theorem qo (h:RJ w p s n):Calls Tryz.prog 56 #[.pointer (some ⟨p,0,none⟩)] w fun e w' =>e= .returned (.int .i64 (s.log.length:Int))∧w=w' :=by
 obtain ⟨j,Fj,c0,h3,-⟩:=h;have hg:=aoi h3;clear h3;have HG:=O hg;clear hg
 go_in
 go_wp2_with fail
 refine HG.out.mono ?_;rintro e w' ⟨rfl,rfl⟩
 go_wp2_with fail
 go_ret
 exact ⟨rfl,rfl⟩
theorem kV {w:World}{g:Nat}{x:Lg}(hb:Blk w g TLg x.cells.toArray):w.cell? ⟨g,0,none⟩=some (.int .i64 x.term)∧w.cell? ⟨g,1,none⟩=some (.int .i64 x.e.kind)∧w.cell? ⟨g,2,none⟩=some (.int .i64 x.e.tick)∧w.cell? ⟨g,3,none⟩=some (.int .i64 x.e.aS)∧w.cell? ⟨g,4,none⟩=some (.int .i64 x.e.cell)∧w.cell? ⟨g,5,none⟩=some (.int .i64 x.e.other)∧w.cell? ⟨g,6,none⟩=some (.int .i64 x.e.epoch)∧w.cell? ⟨g,7,none⟩=some (.int .i64 x.e.from_)∧w.cell? ⟨g,8,none⟩=some (.int .i64 x.e.bA)∧w.cell? ⟨g,9,none⟩=some (.int .i64 x.e.n):=
 ⟨hb.cell 0,hb.cell 1,hb.cell 2,hb.cell 3,hb.cell 4,hb.cell 5,hb.cell 6,hb.cell 7,hb.cell 8,hb.cell 9⟩
theorem aaz (x:Lg)(g:Nat)(y:Value)(ts:Array Value)(W:World)(hb:Blk W g TLg x.cells.toArray)(h2:ts[4]?.getD undef= .pointer (some ⟨g,0,none⟩))(h3:ts[5]?.getD undef=y):
  (results Tryz.f54 ts).run Tryz.prog W= .ok (.tuple #[x.v,y]) W:=by
 obtain ⟨c0,c1,c2,c3,c4,c5,c6,c7,c8,c9⟩:=kV hb;clear hb
 simp [results,Tryz.results54,go_sem,h2,h3,Lg.v,c0,c1,c2,c3,c4,c5,c6,c7,c8,c9]
theorem adr {Z:World}{q:Nat}(x:Lg)(h:Blk Z q TLg #[.int .i64 0,.int .i64 0,.int .i64 0,.int .i64 0,.int .i64 0,.int .i64 0,.int .i64 0,.int .i64 0,.int .i64 0,.int .i64 0]):Blk (World.setCell (World.setCell (World.setCell (World.setCell (World.setCell (World.setCell (World.setCell (World.setCell (World.setCell (World.setCell Z ⟨q,0,none⟩ (.int .i64 x.term)) ⟨q,1,none⟩ (.int .i64 x.e.kind)) ⟨q,2,none⟩ (.int .i64 x.e.tick)) ⟨q,3,none⟩ (.int .i64 x.e.aS)) ⟨q,4,none⟩ (.int .i64 x.e.cell)) ⟨q,5,none⟩ (.int .i64 x.e.other)) ⟨q,6,none⟩ (.int .i64 x.e.epoch)) ⟨q,7,none⟩ (.int .i64 x.e.from_)) ⟨q,8,none⟩ (.int .i64 x.e.bA)) ⟨q,9,none⟩ (.int .i64 x.e.n)) q TLg #[.int .i64 x.term,.int .i64 x.e.kind,.int .i64 x.e.tick,.int .i64 x.e.aS,.int .i64 x.e.cell,.int .i64 x.e.other,.int .i64 x.e.epoch,.int .i64 x.e.from_,.int .i64 x.e.bA,.int .i64 x.e.n]:=by
 refine Blk.conv (Blk.aU (Blk.aU (Blk.aU (Blk.aU (Blk.aU (Blk.aU (Blk.aU (Blk.aU (Blk.aU (Blk.aU h 0 (.int .i64 x.term)) 1 (.int .i64 x.e.kind)) 2 (.int .i64 x.e.tick)) 3 (.int .i64 x.e.aS)) 4 (.int .i64 x.e.cell)) 5 (.int .i64 x.e.other)) 6 (.int .i64 x.e.epoch)) 7 (.int .i64 x.e.from_)) 8 (.int .i64 x.e.bA)) 9 (.int .i64 x.e.n)) ?_;simp only [List.setIfInBounds_toArray,List.set_cons_zero,List.set_cons_succ]
theorem nO {w Z:World}{q:Nat}(x:Lg)(h:Fr No w Z)(hq:w.heap.size≤q):Fr No w (World.setCell (World.setCell (World.setCell (World.setCell (World.setCell (World.setCell (World.setCell (World.setCell (World.setCell (World.setCell Z ⟨q,0,none⟩ (.int .i64 x.term)) ⟨q,1,none⟩ (.int .i64 x.e.kind)) ⟨q,2,none⟩ (.int .i64 x.e.tick)) ⟨q,3,none⟩ (.int .i64 x.e.aS)) ⟨q,4,none⟩ (.int .i64 x.e.cell)) ⟨q,5,none⟩ (.int .i64 x.e.other)) ⟨q,6,none⟩ (.int .i64 x.e.epoch)) ⟨q,7,none⟩ (.int .i64 x.e.from_)) ⟨q,8,none⟩ (.int .i64 x.e.bA)) ⟨q,9,none⟩ (.int .i64 x.e.n)):=Fr.setCell (Fr.setCell (Fr.setCell (Fr.setCell (Fr.setCell (Fr.setCell (Fr.setCell (Fr.setCell (Fr.setCell (Fr.setCell h (p:=⟨q,0,none⟩) (.inr hq) (.int .i64 x.term)) (p:=⟨q,1,none⟩) (.inr hq) (.int .i64 x.e.kind)) (p:=⟨q,2,none⟩) (.inr hq) (.int .i64 x.e.tick)) (p:=⟨q,3,none⟩) (.inr hq) (.int .i64 x.e.aS)) (p:=⟨q,4,none⟩) (.inr hq) (.int .i64 x.e.cell)) (p:=⟨q,5,none⟩) (.inr hq) (.int .i64 x.e.other)) (p:=⟨q,6,none⟩) (.inr hq) (.int .i64 x.e.epoch)) (p:=⟨q,7,none⟩) (.inr hq) (.int .i64 x.e.from_)) (p:=⟨q,8,none⟩) (.inr hq) (.int .i64 x.e.bA)) (p:=⟨q,9,none⟩) (.inr hq) (.int .i64 x.e.n)
set_option maxHeartbeats 1000000 in
theorem apj (h:RJ w p s n)(i:Int):Calls Tryz.prog 54 #[.pointer (some ⟨p,0,none⟩),.int .i64 i] w fun e w' =>e= .returned (.tuple #[(atJ s.log i).1.v,.bool (atJ s.log i).2])∧Fr No w w' :=by
 have c0:=fun W (hW:Fr No w W)=>h.ak hW;obtain ⟨j,Fj,c00,h3,-⟩:=c0 _ (aj w (.cells #[.int .i64 0,.int .i64 0,.int .i64 0,.int .i64 0,.int .i64 0,.int .i64 0,.int .i64 0,.int .i64 0,.int .i64 0,.int .i64 0] TLg));have hg:=ar7 h3 i;clear h3 c0 h;generalize (atJ s.log i).1=x at*;generalize (atJ s.log i).2=b at*;obtain ⟨t,⟨kd,tick,te,ce,ot,ep,fr,un,nn⟩⟩:=x;unfold Lg.v at hg ⊢;simp only at hg ⊢;have HG:=O hg;clear hg
 go_in
 go_wp2_with fail
 refine HG.out.mono ?_;rintro e w1 ⟨rfl,f1⟩;have hb:=(Blk.new w TLg #[.int .i64 0,.int .i64 0,.int .i64 0,.int .i64 0,.int .i64 0,.int .i64 0,.int .i64 0,.int .i64 0,.int .i64 0,.int .i64 0]).fr f1 id;have F1:=O ((aj w (.cells #[.int .i64 0,.int .i64 0,.int .i64 0,.int .i64 0,.int .i64 0,.int .i64 0,.int .i64 0,.int .i64 0,.int .i64 0,.int .i64 0] TLg)).ah f1);have q0:w1.cell? ⟨w.heap.size,0,none⟩=some (.int .i64 0):=hb.cell 0;have q1:w1.cell? ⟨w.heap.size,1,none⟩=some (.int .i64 0):=hb.cell 1;have q2:w1.cell? ⟨w.heap.size,2,none⟩=some (.int .i64 0):=hb.cell 2;have q3:w1.cell? ⟨w.heap.size,3,none⟩=some (.int .i64 0):=hb.cell 3;have q4:w1.cell? ⟨w.heap.size,4,none⟩=some (.int .i64 0):=hb.cell 4;have q5:w1.cell? ⟨w.heap.size,5,none⟩=some (.int .i64 0):=hb.cell 5;have q6:w1.cell? ⟨w.heap.size,6,none⟩=some (.int .i64 0):=hb.cell 6;have q7:w1.cell? ⟨w.heap.size,7,none⟩=some (.int .i64 0):=hb.cell 7;have q8:w1.cell? ⟨w.heap.size,8,none⟩=some (.int .i64 0):=hb.cell 8;have q9:w1.cell? ⟨w.heap.size,9,none⟩=some (.int .i64 0):=hb.cell 9;have y0:=hb.frozen 0;have y1:=hb.frozen 1;have y2:=hb.frozen 2;have y3:=hb.frozen 3;have y4:=hb.frozen 4;have y5:=hb.frozen 5;have y6:=hb.frozen 6;have y7:=hb.frozen 7;have y8:=hb.frozen 8;have y9:=hb.frozen 9;have HB:=O hb;clear hb;clear f1
 go_wp2_with fail
 exact bodyPost_ret (v:= .tuple #[Lg.v ⟨t,⟨kd,tick,te,ce,ot,ep,fr,un,nn⟩⟩,.bool b]) (aaz ⟨t,⟨kd,tick,te,ce,ot,ep,fr,un,nn⟩⟩ w.heap.size _ _ _ (adr ⟨t,⟨kd,tick,te,ce,ot,ep,fr,un,nn⟩⟩ HB.out) rfl rfl) rfl ⟨rfl,nO ⟨t,⟨kd,tick,te,ce,ot,ep,fr,un,nn⟩⟩ F1.out (Nat.le_refl _)⟩
end
end
section
theorem qz {Z:World}{q:Nat}(m:Ms)(v:Value)(h:Blk Z q TMs #[.int .i64 0,.int .i64 0,.int .i64 0,.int .i64 0,.int .i64 0,.int .i64 0,.int .i64 0,.bool false,.slice none 0 0]):Blk (World.setCell (World.setCell (World.setCell (World.setCell (World.setCell (World.setCell (World.setCell (World.setCell (World.setCell Z ⟨q,0,none⟩ (.int .i64 m.kind)) ⟨q,1,none⟩ (.int .i64 m.from_)) ⟨q,2,none⟩ (.int .i64 m.to_)) ⟨q,3,none⟩ (.int .i64 m.term)) ⟨q,4,none⟩ (.int .i64 m.index)) ⟨q,5,none⟩ (.int .i64 m.prev)) ⟨q,6,none⟩ (.int .i64 m.commit)) ⟨q,7,none⟩ (.bool m.ok)) ⟨q,8,none⟩ (v)) q TMs #[.int .i64 m.kind,.int .i64 m.from_,.int .i64 m.to_,.int .i64 m.term,.int .i64 m.index,.int .i64 m.prev,.int .i64 m.commit,.bool m.ok,v]:=by
 refine Blk.conv (Blk.aU (Blk.aU (Blk.aU (Blk.aU (Blk.aU (Blk.aU (Blk.aU (Blk.aU (Blk.aU h 0 (.int .i64 m.kind)) 1 (.int .i64 m.from_)) 2 (.int .i64 m.to_)) 3 (.int .i64 m.term)) 4 (.int .i64 m.index)) 5 (.int .i64 m.prev)) 6 (.int .i64 m.commit)) 7 (.bool m.ok)) 8 (v)) ?_;simp only [List.setIfInBounds_toArray,List.set_cons_zero,List.set_cons_succ]
theorem kU {w Z:World}{q:Nat}(m:Ms)(v:Value)(h:Fr No w Z)(hq:w.heap.size≤q):Fr No w (World.setCell (World.setCell (World.setCell (World.setCell (World.setCell (World.setCell (World.setCell (World.setCell (World.setCell Z ⟨q,0,none⟩ (.int .i64 m.kind)) ⟨q,1,none⟩ (.int .i64 m.from_)) ⟨q,2,none⟩ (.int .i64 m.to_)) ⟨q,3,none⟩ (.int .i64 m.term)) ⟨q,4,none⟩ (.int .i64 m.index)) ⟨q,5,none⟩ (.int .i64 m.prev)) ⟨q,6,none⟩ (.int .i64 m.commit)) ⟨q,7,none⟩ (.bool m.ok)) ⟨q,8,none⟩ (v)):=Fr.setCell (Fr.setCell (Fr.setCell (Fr.setCell (Fr.setCell (Fr.setCell (Fr.setCell (Fr.setCell (Fr.setCell h (p:=⟨q,0,none⟩) (.inr hq) (.int .i64 m.kind)) (p:=⟨q,1,none⟩) (.inr hq) (.int .i64 m.from_)) (p:=⟨q,2,none⟩) (.inr hq) (.int .i64 m.to_)) (p:=⟨q,3,none⟩) (.inr hq) (.int .i64 m.term)) (p:=⟨q,4,none⟩) (.inr hq) (.int .i64 m.index)) (p:=⟨q,5,none⟩) (.inr hq) (.int .i64 m.prev)) (p:=⟨q,6,none⟩) (.inr hq) (.int .i64 m.commit)) (p:=⟨q,7,none⟩) (.inr hq) (.bool m.ok)) (p:=⟨q,8,none⟩) (.inr hq) (v)
theorem mo {w Z:World}{F:Nat→Prop}{q:Nat}(m:Ms)(v:Value)(h:Fr F w Z)(hq:F q):Fr F w (World.setCell (World.setCell (World.setCell (World.setCell (World.setCell (World.setCell (World.setCell (World.setCell (World.setCell Z ⟨q,0,none⟩ (.int .i64 m.kind)) ⟨q,1,none⟩ (.int .i64 m.from_)) ⟨q,2,none⟩ (.int .i64 m.to_)) ⟨q,3,none⟩ (.int .i64 m.term)) ⟨q,4,none⟩ (.int .i64 m.index)) ⟨q,5,none⟩ (.int .i64 m.prev)) ⟨q,6,none⟩ (.int .i64 m.commit)) ⟨q,7,none⟩ (.bool m.ok)) ⟨q,8,none⟩ (v)):=Fr.setCell (Fr.setCell (Fr.setCell (Fr.setCell (Fr.setCell (Fr.setCell (Fr.setCell (Fr.setCell (Fr.setCell h (p:=⟨q,0,none⟩) (.inl hq) (.int .i64 m.kind)) (p:=⟨q,1,none⟩) (.inl hq) (.int .i64 m.from_)) (p:=⟨q,2,none⟩) (.inl hq) (.int .i64 m.to_)) (p:=⟨q,3,none⟩) (.inl hq) (.int .i64 m.term)) (p:=⟨q,4,none⟩) (.inl hq) (.int .i64 m.index)) (p:=⟨q,5,none⟩) (.inl hq) (.int .i64 m.prev)) (p:=⟨q,6,none⟩) (.inl hq) (.int .i64 m.commit)) (p:=⟨q,7,none⟩) (.inl hq) (.bool m.ok)) (p:=⟨q,8,none⟩) (.inl hq) (v)
theorem aL {w:World}{g:Nat}{m:Ms}{v:Value}(hb:Blk w g TMs #[.int .i64 m.kind,.int .i64 m.from_,.int .i64 m.to_,.int .i64 m.term,.int .i64 m.index,.int .i64 m.prev,.int .i64 m.commit,.bool m.ok,v]):w.cell? ⟨g,0,none⟩=some (.int .i64 m.kind)∧w.cell? ⟨g,1,none⟩=some (.int .i64 m.from_)∧w.cell? ⟨g,2,none⟩=some (.int .i64 m.to_)∧w.cell? ⟨g,3,none⟩=some (.int .i64 m.term)∧w.cell? ⟨g,4,none⟩=some (.int .i64 m.index)∧w.cell? ⟨g,5,none⟩=some (.int .i64 m.prev)∧w.cell? ⟨g,6,none⟩=some (.int .i64 m.commit)∧w.cell? ⟨g,7,none⟩=some (.bool m.ok)∧w.cell? ⟨g,8,none⟩=some (v):=
 ⟨hb.cell 0,hb.cell 1,hb.cell 2,hb.cell 3,hb.cell 4,hb.cell 5,hb.cell 6,hb.cell 7,hb.cell 8⟩
theorem qB (m:Ms)(v:Value)(g:Nat)(ts:Array Value)(W:World)(hb:Blk W g TMs #[.int .i64 m.kind,.int .i64 m.from_,.int .i64 m.to_,.int .i64 m.term,.int .i64 m.index,.int .i64 m.prev,.int .i64 m.commit,.bool m.ok,v])(h2:ts[6]?.getD undef= .pointer (some ⟨g,0,none⟩)):
  (results Tryz.f84 ts).run Tryz.prog W= .ok (m.v v) W:=by
 obtain ⟨c0,c1,c2,c3,c4,c5,c6,c7,c8⟩:=aL hb;clear hb
 simp [results,Tryz.results84,go_sem,h2,c0,c1,c2,c3,c4,c5,c6,c7,c8]
theorem og (m:Ms)(v:Value)(g:Nat)(ts:Array Value)(W:World)(hb:Blk W g TMs #[.int .i64 m.kind,.int .i64 m.from_,.int .i64 m.to_,.int .i64 m.term,.int .i64 m.index,.int .i64 m.prev,.int .i64 m.commit,.bool m.ok,v])(h2:ts[3]?.getD undef= .pointer (some ⟨g,0,none⟩)):
  (results Tryz.f83 ts).run Tryz.prog W= .ok (m.v v) W:=by
 obtain ⟨c0,c1,c2,c3,c4,c5,c6,c7,c8⟩:=aL hb;clear hb
 simp [results,Tryz.results83,go_sem,h2,c0,c1,c2,c3,c4,c5,c6,c7,c8]
theorem oh (m:Ms)(v:Value)(g:Nat)(ts:Array Value)(W:World)(hb:Blk W g TMs #[.int .i64 m.kind,.int .i64 m.from_,.int .i64 m.to_,.int .i64 m.term,.int .i64 m.index,.int .i64 m.prev,.int .i64 m.commit,.bool m.ok,v])(h2:ts[4]?.getD undef= .pointer (some ⟨g,0,none⟩)):
  (results Tryz.f89 ts).run Tryz.prog W= .ok (m.v v) W:=by
 obtain ⟨c0,c1,c2,c3,c4,c5,c6,c7,c8⟩:=aL hb;clear hb
 simp [results,Tryz.results89,go_sem,h2,c0,c1,c2,c3,c4,c5,c6,c7,c8]
section
variable {w w' :World}{F:Nat→Prop}{p:Nat}{r:Rs}{s:Js}{n:Nat}
set_option maxHeartbeats 1000000 in
theorem sN (h:RJ w p s n)(hl:s.log.length≤4096):Calls Tryz.prog 85 #[.pointer (some ⟨p,0,none⟩)] w fun e w' =>e= .returned (.int .i64 (lastT s.log))∧Fr No w w' :=by
 have hLen:=fun W (hW:Fr No w W)=>qo (h.ak hW);obtain ⟨j,Fj,c00,h3,-⟩:=h;have c0:=fun W (hW:Fr No w W)=>(hW.cell (p:=⟨p,0,none⟩) (mD c00) id).trans c00;have hT:=fun W (hW:Fr No w W)=>mY (h3.ak hW) ((s.log.length:Int)-1);have hwr:IntKind.i64.wrap ((s.log.length:Int)-1)=(s.log.length:Int)-1:=IntWalk.i64_in _ oy;unfold lastT;generalize aD s.log ((s.log.length:Int)-1)=t at*;generalize s.log.length=ll at*;clear h3 hl;obtain ⟨HLEN,HT,C0⟩:=bP hLen hT c0;clear hLen hT c0
 go_in
 go_wp2_with fail
 go_region_held3 (fun V=>V.cell? ⟨p,0,none⟩=some (.pointer (some ⟨j,0,none⟩))) (exact C0.out _ frz) (first
  |(go_at_call 56;refine (HLEN.out _ frz).mono ?_;rintro e w1 ⟨rfl,rfl⟩)
  |(go_at_call 120;refine (HT.out _ frz).mono ?_;rintro e w2 ⟨rfl,f2⟩;have Q2:Fr No w w2:=Fr.ah frz f2;clear f2))
 all_goals
  go_wp2_with fail
  go_ret
  exact ⟨rfl,frz⟩
set_option maxHeartbeats 1000000 in
theorem mP (h:RAt w F p r n)(kind dst:Int):Calls Tryz.prog 84 #[.pointer (some ⟨p,0,none⟩),.int .i64 kind,.int .i64 dst] w fun e w' =>e= .returned (Ms.v ⟨kind,r.id,dst,r.js.term,0,0,0,false,[]⟩ (.slice none 0 0))∧Fr No w w' :=by
 have qM:=fun W (hW:Fr No w W)=>iq (h.ak hW).rj;obtain ⟨j,Fj,bits,nx,mt,h1,-⟩:=h;have c1:∀W,Fr No w W→W.cell? ⟨p,1,none⟩=some (.int .i64 (r.id:Int)):=fun W hW=>(h1.fr hW (fun h=>h)).cell 1;have hpl:=h1.lt;clear h1;generalize r.js.term=t at*;generalize (r.id:Int)=id at*;obtain ⟨oP,C1⟩:=aO qM c1;clear qM c1
 go_in
 go_wp2_with fail
 go_region_held3 (fun V=>V.cell? ⟨p,1,none⟩=some (.int .i64 id)) (exact C1.out _ frz) (first
  |(go_at_call 12;refine (oP.out _ frz).mono ?_;rintro e w1 ⟨rfl,rfl⟩))
 all_goals
  go_wp2_with fail
  exact bodyPost_ret (v:=Ms.v ⟨kind,id,dst,t,0,0,0,false,[]⟩ (.slice none 0 0)) (qB ⟨kind,id,dst,t,0,0,0,false,[]⟩ _ w.heap.size _ _ (Blk.new _ _ _) rfl) rfl ⟨rfl,frz⟩
end
end
section
theorem Rd.new2 (w:World)(X:Obj)(cs:List Value)(t:TypeId){xs:List Value}(h:cs=xs):Rd ((w.alloc X).alloc (.cells cs.toArray t)) (w.heap.size+2) (some ⟨w.heap.size+1,0,none⟩) xs:=by
 have:=Rd.new (w.alloc X) cs t h
 simpa using this
theorem ado (x:Lg):∀u∈x.cells,u.oneCell' =true:=by
 intro u hu;simp only [Lg.cells,List.mem_cons,List.not_mem_nil,or_false] at hu
 rcases hu with rfl|rfl|rfl|rfl|rfl|rfl|rfl|rfl|rfl|rfl<;>rfl
def Part (w0:World)(l:List Lg)(i0:Nat)(k:Nat)(v:Value)(w:World):Prop:=
 ∃A c,v= .slice A (k-i0) c∧bG w (fun b=>w0.heap.size≤b) TLg 10 (.slice A (k-i0) c) (k-i0) (dD ((l.drop i0).take (k-i0)))
def zM (w:World)(l:List Lg)(e:Ending)(w' :World):Prop:=
 ∃A c,e= .returned (.slice A l.length c)∧bG w' (fun b=>w.heap.size≤b) TLg 10 (.slice A l.length c) l.length (dD l)∧Fr No w w'
theorem Part.ak {w0 w w' :World}{l:List Lg}{i0 k:Nat}{v:Value}(h:Part w0 l i0 k v w)(hf:Fr No w w'):Part w0 l i0 k v w' :=by
 obtain ⟨A,c,h1,h2⟩:=h;exact ⟨A,c,h1,h2.ak hf⟩
theorem Part.next {w0 W w1:World}{l:List Lg}{i0 k:Nat}{A:Option Addr}{c:Nat}{x:Lg}{v' :Value}(hs:w0.heap.size≤W.heap.size)(ho:bG W (fun b=>w0.heap.size≤b) TLg 10 (.slice A (k-i0) c) (k-i0) (dD ((l.drop i0).take (k-i0))))(hi:i0≤k)(hx:l[k]? =some x)
  (ha:bN W 0 TLg 10 (.slice A (k-i0) c) (k-i0) (dD ((l.drop i0).take (k-i0))) x.cells 1 v' w1):Part w0 l i0 (k+1) v' w1∧Fr (fun b=>w0.heap.size≤b) W w1:=by
 obtain ⟨o1,f1⟩:=ho.appended ha;have o2:=o1.mono (G:=fun b=>w0.heap.size≤b) fun i hi=>by rcases hi with hi|hi<;>omega
 have e1:(l.drop i0).take (k+1-i0)=(l.drop i0).take (k-i0)++[x]:=by
  rw [show k+1-i0=(k-i0)+1 from by omega,List.take_add_one]
  congr 1
  rw [List.getElem?_drop,show i0+(k-i0)=k from by omega,hx]
  rfl
 obtain ⟨A',c',e2,-⟩:=o2.form;refine ⟨⟨A',c',by rw [e2,show k+1-i0=k-i0+1 from by omega],?_⟩,f1⟩;rw [e1,mV,show k+1-i0=k-i0+1 from by omega,←e2];exact o2
section
variable {w w' :World}{F:Nat→Prop}{p:Nat}{r:Rs}{s:Js}{n:Nat}
set_option maxHeartbeats 2000000 in
theorem ahd (h:RJ w p s n)(hl:s.log.length≤4096)(i0:Nat)(hi:i0≤s.log.length):Calls Tryz.prog 39 #[.pointer (some ⟨p,0,none⟩),.int .i64 (i0:Int)] w (zM w (s.log.drop i0)):=by
 obtain ⟨i1,hi1,hz0,hz1,hz2⟩:=info_parts fV;have hLen:=fun W (hW:Fr No w W)=>qo (h.ak hW);have hAt:=fun W (hW:Fr No w W) i=>apj (h.ak hW) i;clear h;obtain ⟨HLEN,HAT⟩:=aO hLen hAt;clear hLen hAt
 go_in
 go_wp2_with fail
 go_loopw [1,5] (fun i v wr=>∃k:Nat,i0≤k∧k≤s.log.length∧i= .int .i64 k∧Part w s.log i0 k v wr∧Fr No w wr) (fun i _ _=>s.log.length-(intOf i).toNat)
 case atStart=>exact ⟨i0,Nat.le_refl _,hi,rfl,⟨none,0,by simp,by simp [dD];exact bG.nil _ _ _ _⟩,Fr.refl _ _⟩
 case round=>
  obtain ⟨k,hk1,hk2,rfl,⟨A,c,rfl,hown⟩,hf⟩:=hrel;obtain ⟨HOWN,HF⟩:=aO hown hf;clear hown hf
  go_wp2_with fail
  refine (HLEN.out _ HF.out).mono ?_;rintro e w5 ⟨rfl,rfl⟩
  by_cases hlt:k<s.log.length
  ·have hlt2:(k:Int)<(s.log.length:Int):=by omega
   obtain ⟨x,hx⟩:∃x,s.log[k]? =some x:=⟨_,List.getElem?_eq_getElem hlt⟩;have hat:=HAT.out _ HF.out (k:Int);rw [show atJ s.log (k:Int)=(x,true) from by unfold atJ;rw [if_pos oy,Int.toNat_natCast,hx]] at hat;have hnext:=fun W v' w1 (hs:w.heap.size≤W.heap.size) ho ha=>Part.next (w0:=w) (W:=W) (A:=A) (c:=c) (v' :=v') (w1:=w1) hs ho hk1 hx ha;obtain ⟨t,⟨kd,tick,te,ce,ot,ep,fr,un,nn⟩⟩:=x;unfold Lg.v at hat;simp only at hat;clear hx;obtain ⟨HAT,fJ⟩:=aO hat hnext;clear hat hnext
   go_wp2_with fail
   refine HAT.out.mono ?_;rintro e w6 ⟨rfl,f6⟩;obtain ⟨O6,F6⟩:=aO ((HOWN.out.ak f6)) (HF.out.ah f6);have hs6:=F6.out.size;have hO6:=O6.out.cap;clear f6
   go_wp2_with (at_builtin;refine bK _ rfl (.tmp 20) (.tmp 22) _ rfl 0 TLg i1 _ 10 80 Tryz.underlying34 hi1 hz0 hz1 hz2 rfl dcd (.slice A (k-i0) c) (k-i0) (dD ((s.log.drop i0).take (k-i0))) rfl (O6.out.ak ((aj _ _).alloc _)).1 (w6.heap.size+2) (some ⟨w6.heap.size+1,0,none⟩) 1 1 (Lg.cells (⟨t,⟨kd,tick,te,ce,ot,ep,fr,un,nn⟩⟩:Lg)) rfl ?c1 ?c2 ?c3 ?c4 ?c5 ?c6 ?c7 ?_)
   case c1=>exact fun h=>by cases h
   case c2=>exact Rd.new2 _ _ _ _ rfl
   case c3=>rfl
   case c4=>exact ado _
   case c5=>unfold maxLen;omega
   case c6=>omega
   case c7=>exact Nat.zero_le _
   intro v1 w1 happ;obtain ⟨p1,f1⟩:=fJ.out _ v1 w1 (by simp;omega) (O6.out.ak ((aj _ _).alloc _)) happ;have F1:=O (((F6.out.alloc _).alloc _).aA f1 fun _ h=>h);clear happ f1;have P1:=O p1;clear p1
   go_wp2_with fail
   go_roundw
   case rel=>exact ⟨k+1,by omega,by omega,by go_num,P1.out,F1.out⟩
   case measure=>simp [intOf];omega
  ·have hge:k=s.log.length:=by omega
   subst hge
   go_wp2_with fail
   go_ret
   have e1:(s.log.drop i0).take (s.log.length-i0)=s.log.drop i0:=List.take_of_length_le (by rw [List.length_drop];omega);have e2:s.log.length-i0=(s.log.drop i0).length:=by rw [List.length_drop]
   have ho:=HOWN.out;rw [e1] at ho;rw [e2] at ho ⊢;exact ⟨A,c,rfl,ho,HF.out⟩
end
end
section
theorem eZ.then {y:Bool}{w w1 w' :World}{F F1:Nat→Prop}{j:Nat}{s' :Js}{n:Nat}(hf:Fr F w w1)(hi:∀i,F1 i→F i∨w.heap.size≤i)(h:eZ y w1 F1 j s' n w'):eZ y w F j s' n w' :=by
 obtain ⟨F2,g3,g4,g5⟩:=h;exact ⟨F2,g3,fun i h=>(g4 i h).elim (fun h=>hi i h) (fun h=> .inr (Nat.le_trans hf.size h)),hf.trans g5 hi⟩
theorem RTo.then {w w1 w' :World}{F F1:Nat→Prop}{p:Nat}{r:Rs}{n:Nat}(hf:Fr F w w1)(hi:∀i,F1 i→F i∨w.heap.size≤i)(h:RTo w1 F1 p r n w'):RTo w F p r n w' :=by
 obtain ⟨F2,g3,g4,g5⟩:=h;exact ⟨F2,g3,fun i h=>(g4 i h).elim (fun h=>hi i h) (fun h=> .inr (Nat.le_trans hf.size h)),hf.trans g5 hi⟩
theorem bG.blk {w:World}{F:Nat→Prop}{e:TypeId}{size b n:Nat}{cs:Array Value}(hb:Blk w b e cs)(hs:cs.size=n*size)(hn:n≤maxLen)(hF:F b):bG w F e size (.slice (some ⟨b,0,none⟩) n n) n cs.toList:=
 ⟨⟨by simpa using hs,.inr ⟨b,n,cs,rfl,Nat.zero_le _,hb,Nat.le_refl _,hn,hs,by rw [←hs,←Array.length_toList,List.take_length]⟩⟩,fun g hg=>by simp [Value.ownBlock] at hg;exact hg▸hF⟩
theorem bF.one {w:World}{G:Nat→Prop}{b:Nat}{m:Ms}{v:Value}(hb:Blk w b TMs (m.cells v).toArray)(hF:G b)(he:Ent w (fun i=>G i∧i≠b) v m.es):bF w G (.slice (some ⟨b,0,none⟩) 1 1) [m]:=by
 refine ⟨fun i=>i=b,fun i=>(G i∧i≠b)∧i<w.heap.size,[v],⟨?_,rfl,fun i m' x hm hx=> ?_,fun i hi hh=>hh.1.2 hi,fun i hi=>hi▸hb.lt,fun i hi=>hi.2⟩,fun i hi=>hi▸hF,fun i hi=>hi.1.1⟩
 ·have:=bG.blk (F:=fun i=>i=b) (size:=9) (n:=1) hb rfl mxl rfl
  simpa [msV] using this
 ·rcases i with _|i
  ·simp at hm hx
   subst hm hx;exact he.lt
  ·simp at hm
def fF (w:World)(ms:List Ms)(e:Ending)(w' :World):Prop:=∃A c,e= .returned (.slice A ms.length c)∧bF w' (fun b=>w.heap.size≤b) (.slice A ms.length c) ms∧Fr No w w'
section
variable {w w' :World}{F:Nat→Prop}{p:Nat}{r:Rs}{s:Js}{n:Nat}
set_option maxHeartbeats 1000000 in
theorem nL (h:RAt w F p r n)(t v:Int)(hr:bU {r with js:=bC r.js t v})(hsz:n+200≤140737488355328):Calls Tryz.prog 80 #[.pointer (some ⟨p,0,none⟩),.int .i64 t,.int .i64 v] w fun e w' =>e= .returned (.tuple #[])∧RTo w F p {r with js:=bC r.js t v} (n+48) w' :=by
 obtain ⟨j,Fj,bits,nx,mt,h1,h2,h3,h4,h5,h6,h7,-⟩:=h;have c0:w.cell? ⟨p,0,none⟩=some (.pointer (some ⟨j,0,none⟩)):=h1.cell 0;have hfin:=fun V (hj:eZ true w Fj j (bC r.js t v) (n+48) V)=>RAt.jrn h1 h2 h4 h5 h6 h7 hj hr;have hset:=ad5 h3 t v hsz;have hpl:=h1.lt;generalize bB r.js t v=X at*;generalize bC r.js t v=S at*;clear h1 h2 h3 h4 h6 h7 hr;obtain ⟨bS,jQ,H5⟩:=bP hfin hset h5;clear hfin hset h5
 go_in
 go_wp2_with fail
 refine jQ.out.mono ?_;rintro e w1 ⟨rfl,G1,a1,i1,f1⟩;have c1:=(f1.cell (p:=⟨p,0,none⟩) hpl H5.out).trans c0;obtain ⟨A1,I1,F1⟩:=bP a1 i1 f1;clear a1 i1 f1
 go_wp2_with fail
 refine (zB A1.out).mono ?_;rintro e w2 ⟨rfl,t2⟩;have T2:=O (bS.out _ (eZ.then F1.out I1.out t2));clear t2
 go_wp2_with fail
 go_end0
 exact ⟨rfl,T2.out⟩
set_option maxHeartbeats 1000000 in
theorem kL (h:RAt w F p r n)(dst index:Int)(ok:Bool):Calls Tryz.prog 144 #[.pointer (some ⟨p,0,none⟩),.int .i64 dst,.int .i64 index,.bool ok] w (fF w (r.answer dst index ok)):=by
 have hm:=mP h 4 dst;unfold Rs.answer;generalize r.js.term=t at*;generalize (r.id:Int)=id at*;clear h;have HM:=O hm;clear hm
 go_in
 go_wp2_with fail
 refine HM.out.mono ?_;rintro e w1 ⟨rfl,f1⟩;have F1:=O f1;clear f1
 go_wp2_with fail
 go_ret
 have hs:=F1.out.size;exact ⟨_,_,rfl,bF.one (m:=⟨4,id,dst,t,index,0,0,ok,[]⟩) (Blk.new' _ _ _ _ (by simp)) oy (Ent.nil _ _),(F1.out.alloc _).alloc _⟩
set_option maxHeartbeats 1000000 in
theorem ac3 (id n:Nat)(w:World)(hid:id<n)(hn:n≤5)(hodd:n % 2=1):Calls Tryz.prog 8 #[.int .i64 (id:Int),.int .i64 (n:Int)] w fun e w' =>∃p F,e= .returned (.tuple #[.pointer (some ⟨p,0,none⟩),.int .i64 0])∧RAt w' F p (dF id n) 0∧(∀i,F i→w.heap.size≤i)∧Fr No w w' :=by
 have t1:decide ((n:Int)<1)=false:=by simp;omega
 have t2:decide (5<(n:Int))=false:=by simp;omega
 have t3:((n:Int) % 2 == 0)=false:=by simp;omega
 have t4:decide ((id:Int)<0)=false:=by simp
 have t5:decide (n≤id)=false:=by simp;omega
 have hok:=bU.new (id:=id) (n:=n) hid hn;have HOK:=O hok;clear hok
 go_in
 go_wp2_with fail
 refine (aoh _).mono ?_;rintro e w1 ⟨j,G,rfl,a1,n1,f1⟩;obtain ⟨A1,N1,F1⟩:=bP a1 n1 f1;clear a1 n1 f1
 go_wp2_with fail
 go_ret2
 have hs:=F1.out.size;have hl:=A1.out.lt;refine ⟨w1.heap.size,fun i=>G i∨i=w1.heap.size,rfl,⟨j,G,0,fun _=>0,fun _=>0,Blk.new _ _ _,.inr rfl,A1.out.ak (aj _ _),fun i hi=> .inl hi,fun hh=> ?_,fun i hi=> ?_,⟨fun hh=> ?_,fun hh=> ?_⟩,HOK.out⟩,fun i hi=> ?_,F1.out.alloc _⟩
 ·have:=hl _ hh;omega
 ·rcases hi with hi|hi
  ·have:=hl i hi;simp;omega
  ·simp;omega
 ·simp [dF] at hh
 ·simp [dF] at hh
 ·rcases hi with hi|hi
  ·exact N1.out i hi
  ·omega
end
end
end Go.Proofs.YtjnfmfmglehmbaaGreat
