/-
  The program's replica: messages, parts of the log, the journal's turns.
-/
import Derived.Test.YtodkhcbjpodgeaaGreatG23
namespace Go.Proofs.YtodkhcbjpodgeaaGreat
open Go.ChangeShapes Go.WideShapes Go.ChangeAt Go.RowKit
set_option linter.unusedVariables false
set_option maxRecDepth 100000
set_option maxHeartbeats 4000000
section
theorem aa5 {Z:World}{q:Nat}(m:Ms)(v:Value)(h:Blk Z q TMs #[.int .i64 0,.int .i64 0,.int .i64 0,.int .i64 0,.int .i64 0,.int .i64 0,.int .i64 0,.bool false,.slice none 0 0]):Blk (World.setCell (World.setCell (World.setCell (World.setCell (World.setCell (World.setCell (World.setCell (World.setCell (World.setCell Z ⟨q,0,none⟩ (.int .i64 m.kind)) ⟨q,1,none⟩ (.int .i64 m.from_)) ⟨q,2,none⟩ (.int .i64 m.to_)) ⟨q,3,none⟩ (.int .i64 m.term)) ⟨q,4,none⟩ (.int .i64 m.index)) ⟨q,5,none⟩ (.int .i64 m.prev)) ⟨q,6,none⟩ (.int .i64 m.commit)) ⟨q,7,none⟩ (.bool m.ok)) ⟨q,8,none⟩ (v)) q TMs #[.int .i64 m.kind,.int .i64 m.from_,.int .i64 m.to_,.int .i64 m.term,.int .i64 m.index,.int .i64 m.prev,.int .i64 m.commit,.bool m.ok,v]:=by
 refine Blk.conv (Blk.aC (Blk.aC (Blk.aC (Blk.aC (Blk.aC (Blk.aC (Blk.aC (Blk.aC (Blk.aC h 0 (.int .i64 m.kind)) 1 (.int .i64 m.from_)) 2 (.int .i64 m.to_)) 3 (.int .i64 m.term)) 4 (.int .i64 m.index)) 5 (.int .i64 m.prev)) 6 (.int .i64 m.commit)) 7 (.bool m.ok)) 8 (v)) ?_;simp only [List.setIfInBounds_toArray,List.set_cons_zero,List.set_cons_succ]
theorem oG {w Z:World}{q:Nat}(m:Ms)(v:Value)(h:Fr No w Z)(hq:w.heap.size≤q):Fr No w (World.setCell (World.setCell (World.setCell (World.setCell (World.setCell (World.setCell (World.setCell (World.setCell (World.setCell Z ⟨q,0,none⟩ (.int .i64 m.kind)) ⟨q,1,none⟩ (.int .i64 m.from_)) ⟨q,2,none⟩ (.int .i64 m.to_)) ⟨q,3,none⟩ (.int .i64 m.term)) ⟨q,4,none⟩ (.int .i64 m.index)) ⟨q,5,none⟩ (.int .i64 m.prev)) ⟨q,6,none⟩ (.int .i64 m.commit)) ⟨q,7,none⟩ (.bool m.ok)) ⟨q,8,none⟩ (v)):=Fr.setCell (Fr.setCell (Fr.setCell (Fr.setCell (Fr.setCell (Fr.setCell (Fr.setCell (Fr.setCell (Fr.setCell h (p:=⟨q,0,none⟩) (.inr hq) (.int .i64 m.kind)) (p:=⟨q,1,none⟩) (.inr hq) (.int .i64 m.from_)) (p:=⟨q,2,none⟩) (.inr hq) (.int .i64 m.to_)) (p:=⟨q,3,none⟩) (.inr hq) (.int .i64 m.term)) (p:=⟨q,4,none⟩) (.inr hq) (.int .i64 m.index)) (p:=⟨q,5,none⟩) (.inr hq) (.int .i64 m.prev)) (p:=⟨q,6,none⟩) (.inr hq) (.int .i64 m.commit)) (p:=⟨q,7,none⟩) (.inr hq) (.bool m.ok)) (p:=⟨q,8,none⟩) (.inr hq) (v)
theorem uG {w Z:World}{F:Nat→Prop}{q:Nat}(m:Ms)(v:Value)(h:Fr F w Z)(hq:F q):Fr F w (World.setCell (World.setCell (World.setCell (World.setCell (World.setCell (World.setCell (World.setCell (World.setCell (World.setCell Z ⟨q,0,none⟩ (.int .i64 m.kind)) ⟨q,1,none⟩ (.int .i64 m.from_)) ⟨q,2,none⟩ (.int .i64 m.to_)) ⟨q,3,none⟩ (.int .i64 m.term)) ⟨q,4,none⟩ (.int .i64 m.index)) ⟨q,5,none⟩ (.int .i64 m.prev)) ⟨q,6,none⟩ (.int .i64 m.commit)) ⟨q,7,none⟩ (.bool m.ok)) ⟨q,8,none⟩ (v)):=Fr.setCell (Fr.setCell (Fr.setCell (Fr.setCell (Fr.setCell (Fr.setCell (Fr.setCell (Fr.setCell (Fr.setCell h (p:=⟨q,0,none⟩) (.inl hq) (.int .i64 m.kind)) (p:=⟨q,1,none⟩) (.inl hq) (.int .i64 m.from_)) (p:=⟨q,2,none⟩) (.inl hq) (.int .i64 m.to_)) (p:=⟨q,3,none⟩) (.inl hq) (.int .i64 m.term)) (p:=⟨q,4,none⟩) (.inl hq) (.int .i64 m.index)) (p:=⟨q,5,none⟩) (.inl hq) (.int .i64 m.prev)) (p:=⟨q,6,none⟩) (.inl hq) (.int .i64 m.commit)) (p:=⟨q,7,none⟩) (.inl hq) (.bool m.ok)) (p:=⟨q,8,none⟩) (.inl hq) (v)
theorem jk {w:World}{g:Nat}{m:Ms}{v:Value}(hb:Blk w g TMs #[.int .i64 m.kind,.int .i64 m.from_,.int .i64 m.to_,.int .i64 m.term,.int .i64 m.index,.int .i64 m.prev,.int .i64 m.commit,.bool m.ok,v]):w.cell? ⟨g,0,none⟩=some (.int .i64 m.kind)∧w.cell? ⟨g,1,none⟩=some (.int .i64 m.from_)∧w.cell? ⟨g,2,none⟩=some (.int .i64 m.to_)∧w.cell? ⟨g,3,none⟩=some (.int .i64 m.term)∧w.cell? ⟨g,4,none⟩=some (.int .i64 m.index)∧w.cell? ⟨g,5,none⟩=some (.int .i64 m.prev)∧w.cell? ⟨g,6,none⟩=some (.int .i64 m.commit)∧w.cell? ⟨g,7,none⟩=some (.bool m.ok)∧w.cell? ⟨g,8,none⟩=some (v):=
 ⟨hb.cell 0,hb.cell 1,hb.cell 2,hb.cell 3,hb.cell 4,hb.cell 5,hb.cell 6,hb.cell 7,hb.cell 8⟩
theorem mR (m:Ms)(v:Value)(g:Nat)(ts:Array Value)(W:World)(hb:Blk W g TMs #[.int .i64 m.kind,.int .i64 m.from_,.int .i64 m.to_,.int .i64 m.term,.int .i64 m.index,.int .i64 m.prev,.int .i64 m.commit,.bool m.ok,v])(h2:ts[6]?.getD undef= .pointer (some ⟨g,0,none⟩)):
  (results Tryz.f252 ts).run Tryz.prog W= .ok (m.v v) W:=by
 obtain ⟨c0,c1,c2,c3,c4,c5,c6,c7,c8⟩:=jk hb;clear hb
 simp [results,Tryz.results252,go_sem,h2,c0,c1,c2,c3,c4,c5,c6,c7,c8]
theorem kU (m:Ms)(v:Value)(g:Nat)(ts:Array Value)(W:World)(hb:Blk W g TMs #[.int .i64 m.kind,.int .i64 m.from_,.int .i64 m.to_,.int .i64 m.term,.int .i64 m.index,.int .i64 m.prev,.int .i64 m.commit,.bool m.ok,v])(h2:ts[3]?.getD undef= .pointer (some ⟨g,0,none⟩)):
  (results Tryz.f251 ts).run Tryz.prog W= .ok (m.v v) W:=by
 obtain ⟨c0,c1,c2,c3,c4,c5,c6,c7,c8⟩:=jk hb;clear hb
 simp [results,Tryz.results251,go_sem,h2,c0,c1,c2,c3,c4,c5,c6,c7,c8]
theorem kW (m:Ms)(v:Value)(g:Nat)(ts:Array Value)(W:World)(hb:Blk W g TMs #[.int .i64 m.kind,.int .i64 m.from_,.int .i64 m.to_,.int .i64 m.term,.int .i64 m.index,.int .i64 m.prev,.int .i64 m.commit,.bool m.ok,v])(h2:ts[4]?.getD undef= .pointer (some ⟨g,0,none⟩)):
  (results Tryz.f258 ts).run Tryz.prog W= .ok (m.v v) W:=by
 obtain ⟨c0,c1,c2,c3,c4,c5,c6,c7,c8⟩:=jk hb;clear hb
 simp [results,Tryz.results258,go_sem,h2,c0,c1,c2,c3,c4,c5,c6,c7,c8]
section
variable {w w' :World}{F:Nat→Prop}{p:Nat}{r:Rs}{s:Js}{n:Nat}
set_option maxHeartbeats 1000000 in
theorem yG (h:RJ w p s n)(hl:s.log.length≤4096):Calls Tryz.prog 254 #[.pointer (some ⟨p,0,none⟩)] w fun e w' =>e= .returned (.int .i64 (lastT s.log))∧Fr No w w' :=by
 have hLen:=fun W (hW:Fr No w W)=>aay (h.au hW);obtain ⟨j,Fj,c00,h3,-⟩:=h;have c0:=fun W (hW:Fr No w W)=>(hW.cell (p:=⟨p,0,none⟩) (qA c00) id).trans c00;have hT:=fun W (hW:Fr No w W)=>qw (h3.au hW) ((s.log.length:Int)-1);have hwr:IntKind.i64.wrap ((s.log.length:Int)-1)=(s.log.length:Int)-1:=IntWalk.i64_in _ oy;unfold lastT;generalize dX s.log ((s.log.length:Int)-1)=t at*;generalize s.log.length=ll at*;clear h3 hl;obtain ⟨HLEN,HT,C0⟩:=bC hLen hT c0;clear hLen hT c0
 go_in
 go_wp2_with fail
 go_region_held3 (fun V=>V.cell? ⟨p,0,none⟩=some (.pointer (some ⟨j,0,none⟩))) (exact C0.out _ frz) (first
  |(go_at_call 253;refine (HLEN.out _ frz).mono ?_;rintro e w1 ⟨rfl,rfl⟩)
  |(go_at_call 279;refine (HT.out _ frz).mono ?_;rintro e w2 ⟨rfl,f2⟩;have Q2:Fr No w w2:=Fr.ah frz f2;clear f2))
 all_goals
  go_wp2_with fail
  go_ret
  exact ⟨rfl,frz⟩
set_option maxHeartbeats 1000000 in
theorem rY (h:RAt w F p r n)(kind dst:Int):Calls Tryz.prog 252 #[.pointer (some ⟨p,0,none⟩),.int .i64 kind,.int .i64 dst] w fun e w' =>e= .returned (Ms.v ⟨kind,r.id,dst,r.js.term,0,0,0,false,[]⟩ (.slice none 0 0))∧Fr No w w' :=by
 have nk:=fun W (hW:Fr No w W)=>rW (h.au hW).rj;obtain ⟨j,Fj,bits,nx,mt,h1,-⟩:=h;have c1:∀W,Fr No w W→W.cell? ⟨p,1,none⟩=some (.int .i64 (r.id:Int)):=fun W hW=>(h1.fr hW (fun h=>h)).cell 1;have hpl:=h1.lt;clear h1;generalize r.js.term=t at*;generalize (r.id:Int)=id at*;obtain ⟨qH,C1⟩:=aN nk c1;clear nk c1
 go_in
 go_wp2_with fail
 go_region_held3 (fun V=>V.cell? ⟨p,1,none⟩=some (.int .i64 id)) (exact C1.out _ frz) (first
  |(go_at_call 200;refine (qH.out _ frz).mono ?_;rintro e w1 ⟨rfl,rfl⟩))
 all_goals
  go_wp2_with fail
  exact bodyPost_ret (v:=Ms.v ⟨kind,id,dst,t,0,0,0,false,[]⟩ (.slice none 0 0)) (mR ⟨kind,id,dst,t,0,0,0,false,[]⟩ _ w.heap.size _ _ (Blk.new _ _ _) rfl) rfl ⟨rfl,frz⟩
end
end
section
theorem Rd.new2 (w:World)(X:Obj)(cs:List Value)(t:TypeId){xs:List Value}(h:cs=xs):Rd ((w.alloc X).alloc (.cells cs.toArray t)) (w.heap.size+2) (some ⟨w.heap.size+1,0,none⟩) xs:=by
 have:=Rd.new (w.alloc X) cs t h
 simpa using this
theorem aja (x:Lg):∀u∈x.cells,u.oneCell' =true:=by
 intro u hu;simp only [Lg.cells,List.mem_cons,List.not_mem_nil,or_false] at hu
 rcases hu with rfl|rfl|rfl|rfl|rfl|rfl|rfl|rfl|rfl|rfl<;>rfl
def Part (w0:World)(l:List Lg)(i0:Nat)(k:Nat)(v:Value)(w:World):Prop:=
 ∃A c,v= .slice A (k-i0) c∧aA w (fun b=>w0.heap.size≤b) TLg 10 (.slice A (k-i0) c) (k-i0) (lu ((l.drop i0).take (k-i0)))
def xJ (w:World)(l:List Lg)(e:Ending)(w' :World):Prop:=
 ∃A c,e= .returned (.slice A l.length c)∧aA w' (fun b=>w.heap.size≤b) TLg 10 (.slice A l.length c) l.length (lu l)∧Fr No w w'
theorem Part.next {w0 W w1:World}{l:List Lg}{i0 k:Nat}{A:Option Addr}{c:Nat}{x:Lg}{v' :Value}(hs:w0.heap.size≤W.heap.size)(ho:aA W (fun b=>w0.heap.size≤b) TLg 10 (.slice A (k-i0) c) (k-i0) (lu ((l.drop i0).take (k-i0))))(hi:i0≤k)(hx:l[k]? =some x)
  (ha:aJ W 0 TLg 10 (.slice A (k-i0) c) (k-i0) (lu ((l.drop i0).take (k-i0))) x.cells 1 v' w1):Part w0 l i0 (k+1) v' w1∧Fr (fun b=>w0.heap.size≤b) W w1:=by
 obtain ⟨o1,f1⟩:=ho.appended ha;have o2:=o1.mono (G:=fun b=>w0.heap.size≤b) fun i hi=>by rcases hi with hi|hi<;>omega
 have e1:(l.drop i0).take (k+1-i0)=(l.drop i0).take (k-i0)++[x]:=by
  rw [show k+1-i0=(k-i0)+1 from by omega,List.take_add_one]
  congr 1
  rw [List.getElem?_drop,show i0+(k-i0)=k from by omega,hx]
  rfl
 obtain ⟨A',c',e2,-⟩:=o2.form;refine ⟨⟨A',c',by rw [e2,show k+1-i0=k-i0+1 from by omega],?_⟩,f1⟩;rw [e1,sw,show k+1-i0=k-i0+1 from by omega,←e2];exact o2
section
variable {w w' :World}{F:Nat→Prop}{p:Nat}{r:Rs}{s:Js}{n:Nat}
set_option maxHeartbeats 2000000 in
theorem ag6 (h:RJ w p s n)(hl:s.log.length≤4096)(i0:Nat)(hi:i0≤s.log.length):Calls Tryz.prog 285 #[.pointer (some ⟨p,0,none⟩),.int .i64 (i0:Int)] w (xJ w (s.log.drop i0)):=by
 obtain ⟨i1,hi1,hz0,hz1,hz2⟩:=info_parts wT;have hLen:=fun W (hW:Fr No w W)=>aay (h.au hW);have hAt:=fun W (hW:Fr No w W) i=>avz (h.au hW) i;clear h;obtain ⟨HLEN,HAT⟩:=aN hLen hAt;clear hLen hAt
 go_in
 go_wp2_with fail
 go_loopw [1,5] (fun i v wr=>∃k:Nat,i0≤k∧k≤s.log.length∧i= .int .i64 k∧Part w s.log i0 k v wr∧Fr No w wr) (fun i _ _=>s.log.length-(intOf i).toNat)
 case atStart=>exact ⟨i0,Nat.le_refl _,hi,rfl,⟨none,0,by simp,by simp [lu];exact aA.nil _ _ _ _⟩,Fr.refl _ _⟩
 case round=>
  obtain ⟨k,hk1,hk2,rfl,⟨A,c,rfl,hown⟩,hf⟩:=hrel;obtain ⟨HOWN,HF⟩:=aN hown hf;clear hown hf
  go_wp2_with fail
  refine (HLEN.out _ HF.out).mono ?_;rintro e w5 ⟨rfl,rfl⟩
  by_cases hlt:k<s.log.length
  ·have hlt2:(k:Int)<(s.log.length:Int):=by omega
   obtain ⟨x,hx⟩:∃x,s.log[k]? =some x:=⟨_,List.getElem?_eq_getElem hlt⟩;have hat:=HAT.out _ HF.out (k:Int);rw [show atJ s.log (k:Int)=(x,true) from by unfold atJ;rw [if_pos oy,Int.toNat_natCast,hx]] at hat;have hnext:=fun W v' w1 (hs:w.heap.size≤W.heap.size) ho ha=>Part.next (w0:=w) (W:=W) (A:=A) (c:=c) (v' :=v') (w1:=w1) hs ho hk1 hx ha;obtain ⟨t,⟨kd,tick,te,ce,ot,ep,fr,un,nn⟩⟩:=x;unfold Lg.v at hat;simp only at hat;clear hx;obtain ⟨HAT,lJ⟩:=aN hat hnext;clear hat hnext
   go_wp2_with fail
   refine HAT.out.mono ?_;rintro e w6 ⟨rfl,f6⟩;obtain ⟨O6,F6⟩:=aN ((HOWN.out.au f6)) (HF.out.ah f6);have hs6:=F6.out.size;have hO6:=O6.out.cap;clear f6
   go_wp2_with (at_builtin;refine aB _ rfl (.tmp 20) (.tmp 22) _ rfl 0 TLg i1 _ 10 80 Tryz.underlying316 hi1 hz0 hz1 hz2 rfl dcd (.slice A (k-i0) c) (k-i0) (lu ((s.log.drop i0).take (k-i0))) rfl (O6.out.au ((aj _ _).alloc _)).1 (w6.heap.size+2) (some ⟨w6.heap.size+1,0,none⟩) 1 1 (Lg.cells (⟨t,⟨kd,tick,te,ce,ot,ep,fr,un,nn⟩⟩:Lg)) rfl ?c1 ?c2 ?c3 ?c4 ?c5 ?c6 ?c7 ?_)
   case c1=>exact fun h=>by cases h
   case c2=>exact Rd.new2 _ _ _ _ rfl
   case c3=>rfl
   case c4=>exact aja _
   case c5=>unfold maxLen;omega
   case c6=>omega
   case c7=>exact Nat.zero_le _
   intro v1 w1 happ;obtain ⟨p1,f1⟩:=lJ.out _ v1 w1 (by simp;omega) (O6.out.au ((aj _ _).alloc _)) happ;have F1:=O (((F6.out.alloc _).alloc _).aD f1 fun _ h=>h);clear happ f1;have P1:=O p1;clear p1
   go_wp2_with fail
   go_roundw
   case rel=>exact ⟨k+1,by omega,by omega,by go_num,P1.out,F1.out⟩
   case measure=>simp [intOf];omega
  ·have hge:k=s.log.length:=by omega
   subst hge
   go_wp2_with fail
   go_ret
   have e1:(s.log.drop i0).take (s.log.length-i0)=s.log.drop i0:=List.take_of_length_le (by rw [List.length_drop];omega);have e2:s.log.length-i0=(s.log.drop i0).length:=by rw [List.length_drop]
   have ho:=HOWN.out;rw [e1] at ho;rw [e2] at ho ⊢;exact ⟨A,c,rfl,ho,HF.out⟩
end
end
section
theorem nL.then {y:Bool}{w w1 w' :World}{F F1:Nat→Prop}{j:Nat}{s' :Js}{n:Nat}(hf:Fr F w w1)(hi:∀i,F1 i→F i∨w.heap.size≤i)(h:nL y w1 F1 j s' n w'):nL y w F j s' n w' :=by
 obtain ⟨F2,g3,g4,g5⟩:=h;exact ⟨F2,g3,fun i h=>(g4 i h).elim (fun h=>hi i h) (fun h=> .inr (Nat.le_trans hf.size h)),hf.trans g5 hi⟩
theorem RTo.then {w w1 w' :World}{F F1:Nat→Prop}{p:Nat}{r:Rs}{n:Nat}(hf:Fr F w w1)(hi:∀i,F1 i→F i∨w.heap.size≤i)(h:RTo w1 F1 p r n w'):RTo w F p r n w' :=by
 obtain ⟨F2,g3,g4,g5⟩:=h;exact ⟨F2,g3,fun i h=>(g4 i h).elim (fun h=>hi i h) (fun h=> .inr (Nat.le_trans hf.size h)),hf.trans g5 hi⟩
def zD (w:World)(ms:List Ms)(e:Ending)(w' :World):Prop:=∃A c,e= .returned (.slice A ms.length c)∧kC w' (fun b=>w.heap.size≤b) (.slice A ms.length c) ms∧Fr No w w'
section
variable {w w' :World}{F:Nat→Prop}{p:Nat}{r:Rs}{s:Js}{n:Nat}
set_option maxHeartbeats 1000000 in
theorem yF (h:RAt w F p r n)(t v:Int)(hr:gJ {r with js:=cO r.js t v})(hsz:n+200≤140737488355328):Calls Tryz.prog 248 #[.pointer (some ⟨p,0,none⟩),.int .i64 t,.int .i64 v] w fun e w' =>e= .returned (.tuple #[])∧RTo w F p {r with js:=cO r.js t v} (n+48) w' :=by
 obtain ⟨j,Fj,bits,nx,mt,h1,h2,h3,h4,h5,h6,h7,-⟩:=h;have c0:w.cell? ⟨p,0,none⟩=some (.pointer (some ⟨j,0,none⟩)):=h1.cell 0;have hfin:=fun V (hj:nL true w Fj j (cO r.js t v) (n+48) V)=>RAt.jrn h1 h2 h4 h5 h6 h7 hj hr;have hset:=ab4 h3 t v hsz;have hpl:=h1.lt;generalize bK r.js t v=X at*;generalize cO r.js t v=S at*;clear h1 h2 h3 h4 h6 h7 hr;obtain ⟨eu,aj9,H5⟩:=bC hfin hset h5;clear hfin hset h5
 go_in
 go_wp2_with fail
 refine aj9.out.mono ?_;rintro e w1 ⟨rfl,G1,a1,i1,f1⟩;have c1:=(f1.cell (p:=⟨p,0,none⟩) hpl H5.out).trans c0;obtain ⟨A1,I1,F1⟩:=bC a1 i1 f1;clear a1 i1 f1
 go_wp2_with fail
 refine (ahi A1.out).mono ?_;rintro e w2 ⟨rfl,t2⟩;have T2:=O (eu.out _ (nL.then F1.out I1.out t2));clear t2
 go_wp2_with fail
 go_end0
 exact ⟨rfl,T2.out⟩
set_option maxHeartbeats 1000000 in
theorem apv (id n:Nat)(w:World)(hid:id<n)(hn:n≤5)(hodd:n % 2=1):Calls Tryz.prog 138 #[.int .i64 (id:Int),.int .i64 (n:Int)] w fun e w' =>∃p F,e= .returned (.tuple #[.pointer (some ⟨p,0,none⟩),.int .i64 0])∧RAt w' F p (gy id n) 0∧(∀i,F i→w.heap.size≤i)∧Fr No w w' :=by
 have t1:decide ((n:Int)<1)=false:=by simp;omega
 have t2:decide (5<(n:Int))=false:=by simp;omega
 have t3:((n:Int) % 2 == 0)=false:=by simp;omega
 have t4:decide ((id:Int)<0)=false:=by simp
 have t5:decide (n≤id)=false:=by simp;omega
 have hok:=gJ.new (id:=id) (n:=n) hid hn;have HOK:=O hok;clear hok
 go_in
 go_wp2_with fail
 refine (aq5 _).mono ?_;rintro e w1 ⟨j,G,rfl,a1,n1,f1⟩;obtain ⟨A1,N1,F1⟩:=bC a1 n1 f1;clear a1 n1 f1
 go_wp2_with fail
 go_ret2
 have hs:=F1.out.size;have hl:=A1.out.lt;refine ⟨w1.heap.size,fun i=>G i∨i=w1.heap.size,rfl,⟨j,G,0,fun _=>0,fun _=>0,Blk.new _ _ _,.inr rfl,A1.out.au (aj _ _),fun i hi=> .inl hi,fun hh=> ?_,fun i hi=> ?_,⟨fun hh=> ?_,fun hh=> ?_⟩,HOK.out⟩,fun i hi=> ?_,F1.out.alloc _⟩
 ·have:=hl _ hh;omega
 ·rcases hi with hi|hi
  ·have:=hl i hi;simp;omega
  ·simp;omega
 ·simp [gy] at hh
 ·simp [gy] at hh
 ·rcases hi with hi|hi
  ·exact N1.out i hi
  ·omega
end
end
section
structure zH (V:World) (g3 g4:Nat) (id dst t:Int) (x:Value):Prop where
 b3:Blk V g3 TMs #[.int .i64 0,.int .i64 0,.int .i64 0,.int .i64 0,.int .i64 0,.int .i64 0,.int .i64 0,.bool false,.slice none 0 0]
 b4:Blk V g4 TMs #[.int .i64 1,.int .i64 id,.int .i64 dst,.int .i64 t,x,.int .i64 0,.int .i64 0,.bool false,.slice none 0 0]
 ne:g3≠g4
section
variable {V V' :World}{g3 g4:Nat}{id dst t:Int}{x:Value}
theorem zH.drew (h:zH V g3 g4 id dst t x):zH V.drew g3 g4 id dst t x:=⟨h.b3,h.b4,h.ne⟩
theorem zH.fr (h:zH V g3 g4 id dst t x)(hf:Fr No V V'):zH V' g3 g4 id dst t x:=⟨h.b3.fr hf (fun h=>h),h.b4.fr hf (fun h=>h),h.ne⟩
theorem zH.jA (h:zH V g3 g4 id dst t x):(V.cell? ⟨g4,0,none⟩=some (.int .i64 1)∧V.cell? ⟨g4,1,none⟩=some (.int .i64 id)∧V.cell? ⟨g4,2,none⟩=some (.int .i64 dst)∧V.cell? ⟨g4,3,none⟩=some (.int .i64 t)∧V.cell? ⟨g4,4,none⟩=some (x)∧V.cell? ⟨g4,5,none⟩=some (.int .i64 0)∧V.cell? ⟨g4,6,none⟩=some (.int .i64 0)∧V.cell? ⟨g4,7,none⟩=some (.bool false)∧V.cell? ⟨g4,8,none⟩=some (.slice none 0 0))∧V.frozen? ⟨g4,4,none⟩=false∧V.frozen? ⟨g4,5,none⟩=false:=
 ⟨⟨h.b4.cell 0,h.b4.cell 1,h.b4.cell 2,h.b4.cell 3,h.b4.cell 4,h.b4.cell 5,h.b4.cell 6,h.b4.cell 7,h.b4.cell 8⟩,h.b4.frozen 4,h.b4.frozen 5⟩
theorem zH.cells3 (h:zH V g3 g4 id dst t x):(V.cell? ⟨g3,0,none⟩=some (.int .i64 0)∧V.cell? ⟨g3,1,none⟩=some (.int .i64 0)∧V.cell? ⟨g3,2,none⟩=some (.int .i64 0)∧V.cell? ⟨g3,3,none⟩=some (.int .i64 0)∧V.cell? ⟨g3,4,none⟩=some (.int .i64 0)∧V.cell? ⟨g3,5,none⟩=some (.int .i64 0)∧V.cell? ⟨g3,6,none⟩=some (.int .i64 0)∧V.cell? ⟨g3,7,none⟩=some (.bool false)∧V.cell? ⟨g3,8,none⟩=some (.slice none 0 0))∧V.frozen? ⟨g3,0,none⟩=false∧V.frozen? ⟨g3,1,none⟩=false∧V.frozen? ⟨g3,2,none⟩=false∧V.frozen? ⟨g3,3,none⟩=false∧V.frozen? ⟨g3,4,none⟩=false∧V.frozen? ⟨g3,5,none⟩=false∧V.frozen? ⟨g3,6,none⟩=false∧V.frozen? ⟨g3,7,none⟩=false∧V.frozen? ⟨g3,8,none⟩=false:=
 ⟨⟨h.b3.cell 0,h.b3.cell 1,h.b3.cell 2,h.b3.cell 3,h.b3.cell 4,h.b3.cell 5,h.b3.cell 6,h.b3.cell 7,h.b3.cell 8⟩,h.b3.frozen 0,h.b3.frozen 1,h.b3.frozen 2,h.b3.frozen 3,h.b3.frozen 4,h.b3.frozen 5,h.b3.frozen 6,h.b3.frozen 7,h.b3.frozen 8⟩
end
section
variable {w w' :World}{F:Nat→Prop}{p:Nat}{r:Rs}{s:Js}{n:Nat}
theorem avy (h:RAt w F p r n)(dst:Int)(b:Nat)(hb:w.cell? ⟨b,0,none⟩=some (.pointer (some ⟨p,0,none⟩))):Calls Tryz.prog 251 #[.int .i64 dst,.pointer (some ⟨b,0,none⟩)] w fun e w' =>e= .returned (Ms.v ⟨1,r.id,dst,r.js.term,r.js.log.length,lastT r.js.log,0,false,[]⟩ (.slice none 0 0))∧Fr No w w' :=by
 have hm:=fun W (hW:Fr No w W)=>rY (h.au hW) 1 dst;have hLen:=fun W (hW:Fr No w W)=>aay (h.au hW).rj;have hLT:=fun W (hW:Fr No w W)=>yG (h.au hW).rj h.ok.log.few;have hbl:=qA hb;have hB:=fun W (hW:Fr No w W)=>(hW.cell (p:=⟨b,0,none⟩) hbl (fun h=>h)).trans hb;generalize r.js.term=t at*;generalize (r.id:Int)=id at*;generalize lastT r.js.log=lt at*;generalize r.js.log.length=ll at*;clear h;have hb1:=hB _ (aj w (.cells #[.int .i64 0,.int .i64 0,.int .i64 0,.int .i64 0,.int .i64 0,.int .i64 0,.int .i64 0,.bool false,.slice none 0 0] TMs));obtain ⟨HM,HLEN,HLT,HB⟩:=fV hm hLen hLT hB;clear hm hLen hLT hB
 go_in
 go_wp2_with fail
 refine (HM.out _ (aj _ _)).mono ?_;rintro e w1 ⟨rfl,f1⟩;obtain ⟨F1,B1⟩:=aN ((aj w (.cells #[.int .i64 0,.int .i64 0,.int .i64 0,.int .i64 0,.int .i64 0,.int .i64 0,.int .i64 0,.bool false,.slice none 0 0] TMs)).ah f1) ((Blk.new w TMs #[.int .i64 0,.int .i64 0,.int .i64 0,.int .i64 0,.int .i64 0,.int .i64 0,.int .i64 0,.bool false,.slice none 0 0]).fr f1 (fun h=>h));clear f1 hb1
 go_wp2_with fail
 obtain ⟨W0,hW0⟩:∃W0,W0=w1.alloc (.cells #[.int .i64 1,.int .i64 id,.int .i64 dst,.int .i64 t,.int .i64 0,.int .i64 0,.int .i64 0,.bool false,.slice none 0 0] TMs):=⟨_,rfl⟩;rw [←hW0];have hF:Fr No w W0:=by rw [hW0];exact F1.out.alloc _
 have q3:Blk W0 w.heap.size TMs #[.int .i64 0,.int .i64 0,.int .i64 0,.int .i64 0,.int .i64 0,.int .i64 0,.int .i64 0,.bool false,.slice none 0 0]:=by rw [hW0];exact B1.out.dJ _
 have q4:Blk W0 w1.heap.size TMs #[.int .i64 1,.int .i64 id,.int .i64 dst,.int .i64 t,.int .i64 0,.int .i64 0,.int .i64 0,.bool false,.slice none 0 0]:=by rw [hW0];exact Blk.new _ _ _
 have hs1:=F1.out.size;have hl3:=B1.out.lt;obtain ⟨g4,hg4⟩:∃g,g=w1.heap.size:=⟨_,rfl⟩;obtain ⟨g3,hg3⟩:∃g,g=w.heap.size:=⟨_,rfl⟩;rw [←hg4] at q4;rw [←hg3] at q3;rw [←hg4,←hg3];have n4:w.heap.size≤g4:=by omega
 have n3:w.heap.size≤g3:=by omega
 have n34:g3≠g4:=by omega
 have qq:zH W0 g3 g4 id dst t (.int .i64 0):=⟨q3,q4,n34⟩;clear hW0 hg4 hg3 hl3 hs1 F1 B1 q3 q4;obtain ⟨⟨x0,x1,x2,x3,x4,x5,x6,x7,x8⟩,y4,y5⟩:=qq.jA;have hb0:=HB.out _ hF;have QQ:=O qq;clear qq
 go_region_held3 (fun V=>V.cell? ⟨b,0,none⟩=some (.pointer (some ⟨p,0,none⟩))) (exact HB.out _ (by repeat (with_reducible first|assumption|exact Fr.refl _ _|refine Fr.alloc ?_ _|refine Fr.drew ?_|refine Fr.drewN ?_ _|refine Fr.setCell ?_ (.inr (by assumption)) _))) (first
  |(go_at_call 253;refine (HLEN.out _ (by repeat (with_reducible first|assumption|exact Fr.refl _ _|refine Fr.alloc ?_ _|refine Fr.drew ?_|refine Fr.drewN ?_ _|refine Fr.setCell ?_ (.inr (by assumption)) _))).mono ?_;rintro e w5 ⟨rfl,rfl⟩)
  |(go_at_call 254;refine (HLT.out _ (by repeat (with_reducible first|assumption|exact Fr.refl _ _|refine Fr.alloc ?_ _|refine Fr.drew ?_|refine Fr.drewN ?_ _|refine Fr.setCell ?_ (.inr (by assumption)) _))).mono ?_;rintro e w2 ⟨rfl,f2⟩;have Q2:Fr No w w2:=Fr.ah (by repeat (with_reducible first|assumption|exact Fr.refl _ _|refine Fr.alloc ?_ _|refine Fr.drew ?_|refine Fr.drewN ?_ _|refine Fr.setCell ?_ (.inr (by assumption)) _)) f2;have k2:=zH.fr (by first|exact QQ.out.drew|exact QQ.out|exact QQ.out.drew.avx _|exact QQ.out.avx _) f2;obtain ⟨⟨x0,x1,x2,x3,x4,x5,x6,x7,x8⟩,y4,y5⟩:=k2.jA;obtain ⟨⟨z0,z1,z2,z3,z4,z5,z6,z7,z8⟩,v0,v1,v2,v3,v4,v5,v6,v7,v8⟩:=k2.cells3;have K2:=O k2;clear k2 f2))
 all_goals
  go_wp2_with fail
  refine bodyPost_ret (v:=Ms.v ⟨1,id,dst,t,ll,lt,0,false,[]⟩ (.slice none 0 0)) (kU ⟨1,id,dst,t,ll,lt,0,false,[]⟩ _ g3 _ _ (aa5 ⟨1,id,dst,t,ll,lt,0,false,[]⟩ (.slice none 0 0) ?_) rfl) rfl ⟨rfl,oG ⟨1,id,dst,t,ll,lt,0,false,[]⟩ (.slice none 0 0) ?_ n3⟩
  ·first|exact K2.out.b3|exact K2.out.b3.aG n34 _|exact (K2.out.b3.aG n34 _).aG n34 _
  ·first|exact Q2|exact Q2.setCell (.inr n4) _|exact (Q2.setCell (p:=⟨g4,_,none⟩) (.inr n4) _).setCell (.inr n4) _
end
end
section
structure MAt (V:World) (g3 g4:Nat) (m:Ms) (v:Value):Prop where
 b3:Blk V g3 TMs #[.int .i64 0,.int .i64 0,.int .i64 0,.int .i64 0,.int .i64 0,.int .i64 0,.int .i64 0,.bool false,.slice none 0 0]
 b4:Blk V g4 TMs #[.int .i64 m.kind,.int .i64 m.from_,.int .i64 m.to_,.int .i64 m.term,.int .i64 m.index,.int .i64 m.prev,.int .i64 m.commit,.bool m.ok,v]
 ne:g3≠g4
section
variable {V V' :World}{g3 g4:Nat}{m:Ms}{v:Value}
theorem MAt.drew (h:MAt V g3 g4 m v):MAt V.drew g3 g4 m v:=⟨h.b3,h.b4,h.ne⟩
theorem MAt.fr (h:MAt V g3 g4 m v)(hf:Fr No V V'):MAt V' g3 g4 m v:=⟨h.b3.fr hf id,h.b4.fr hf id,h.ne⟩
theorem MAt.aso (h:MAt V g3 g4 m v)(i:Int):MAt (V.setCell ⟨g4,5,none⟩ (.int .i64 i)) g3 g4 {m with prev:=i} v:=⟨h.b3.aG h.ne _,(h.b4.aC 5 _).conv rfl,h.ne⟩
theorem MAt.avw (h:MAt V g3 g4 m v)(i:Int):MAt (V.setCell ⟨g4,6,none⟩ (.int .i64 i)) g3 g4 {m with commit:=i} v:=⟨h.b3.aG h.ne _,(h.b4.aC 6 _).conv rfl,h.ne⟩
theorem MAt.avv (h:MAt V g3 g4 m v)(u:Value):MAt (V.setCell ⟨g4,8,none⟩ u) g3 g4 m u:=⟨h.b3.aG h.ne _,(h.b4.aC 8 _).conv rfl,h.ne⟩
theorem MAt.jA (h:MAt V g3 g4 m v):(V.cell? ⟨g4,0,none⟩=some (.int .i64 m.kind)∧V.cell? ⟨g4,1,none⟩=some (.int .i64 m.from_)∧V.cell? ⟨g4,2,none⟩=some (.int .i64 m.to_)∧V.cell? ⟨g4,3,none⟩=some (.int .i64 m.term)∧V.cell? ⟨g4,4,none⟩=some (.int .i64 m.index)∧V.cell? ⟨g4,5,none⟩=some (.int .i64 m.prev)∧V.cell? ⟨g4,6,none⟩=some (.int .i64 m.commit)∧V.cell? ⟨g4,7,none⟩=some (.bool m.ok)∧V.cell? ⟨g4,8,none⟩=some (v))∧V.frozen? ⟨g4,4,none⟩=false∧V.frozen? ⟨g4,5,none⟩=false∧V.frozen? ⟨g4,6,none⟩=false∧V.frozen? ⟨g4,7,none⟩=false∧V.frozen? ⟨g4,8,none⟩=false:=
 ⟨⟨h.b4.cell 0,h.b4.cell 1,h.b4.cell 2,h.b4.cell 3,h.b4.cell 4,h.b4.cell 5,h.b4.cell 6,h.b4.cell 7,h.b4.cell 8⟩,h.b4.frozen 4,h.b4.frozen 5,h.b4.frozen 6,h.b4.frozen 7,h.b4.frozen 8⟩
theorem MAt.cells3 (h:MAt V g3 g4 m v):(V.cell? ⟨g3,0,none⟩=some (.int .i64 0)∧V.cell? ⟨g3,1,none⟩=some (.int .i64 0)∧V.cell? ⟨g3,2,none⟩=some (.int .i64 0)∧V.cell? ⟨g3,3,none⟩=some (.int .i64 0)∧V.cell? ⟨g3,4,none⟩=some (.int .i64 0)∧V.cell? ⟨g3,5,none⟩=some (.int .i64 0)∧V.cell? ⟨g3,6,none⟩=some (.int .i64 0)∧V.cell? ⟨g3,7,none⟩=some (.bool false)∧V.cell? ⟨g3,8,none⟩=some (.slice none 0 0))∧V.frozen? ⟨g3,0,none⟩=false∧V.frozen? ⟨g3,1,none⟩=false∧V.frozen? ⟨g3,2,none⟩=false∧V.frozen? ⟨g3,3,none⟩=false∧V.frozen? ⟨g3,4,none⟩=false∧V.frozen? ⟨g3,5,none⟩=false∧V.frozen? ⟨g3,6,none⟩=false∧V.frozen? ⟨g3,7,none⟩=false∧V.frozen? ⟨g3,8,none⟩=false:=
 ⟨⟨h.b3.cell 0,h.b3.cell 1,h.b3.cell 2,h.b3.cell 3,h.b3.cell 4,h.b3.cell 5,h.b3.cell 6,h.b3.cell 7,h.b3.cell 8⟩,h.b3.frozen 0,h.b3.frozen 1,h.b3.frozen 2,h.b3.frozen 3,h.b3.frozen 4,h.b3.frozen 5,h.b3.frozen 6,h.b3.frozen 7,h.b3.frozen 8⟩
end
def akj (w:World)(m:Ms)(e:Ending)(w' :World):Prop:=∃v,e= .returned (m.v v)∧Ent w' (fun b=>w.heap.size≤b) v m.es∧Fr No w w'
theorem an2.at_ {r:Rs}{bits:Int}{nx mt:Nat→Int}(h:an2 r bits nx mt)(hr:r.role=3){i:Nat}(hi:i<r.n):nx i=r.next i∧mt i=r.qI i:=h.2 hr i hi
theorem pX {w:World}{p j:Nat}{r:Rs}{bits:Int}{nx mt:Nat→Int}(h:Blk w p adn (fH j r bits nx mt)){i:Nat}(hi:i<5):w.cell? ⟨p,6+i,none⟩=some (.int .i64 (nx i))∧w.cell? ⟨p,11+i,none⟩=some (.int .i64 (mt i)):=by
 rw [h.cell,h.cell]
 match i,hi with
 |0,_=>exact ⟨rfl,rfl⟩
 |1,_=>exact ⟨rfl,rfl⟩
 |2,_=>exact ⟨rfl,rfl⟩
 |3,_=>exact ⟨rfl,rfl⟩
 |4,_=>exact ⟨rfl,rfl⟩
section
variable {w w' :World}{F:Nat→Prop}{p:Nat}{r:Rs}{s:Js}{n:Nat}
theorem uD (h:RAt w F p r n)(hr:r.role=3)(dst:Nat)(hd:dst<r.n):Calls Tryz.prog 258 #[.pointer (some ⟨p,0,none⟩),.int .i64 (dst:Int)] w (akj w (r.app dst)):=by
 have hm:=fun W (hW:Fr No w W)=>rY (h.au hW) 3 dst;have hok:=h.ok;have aoy:=hok.log.few;have hnx:=hok.nxt hr dst;have h5:=hok.five;have am0:=fun W (hW:Fr No w W)=>ag6 (h.au hW).rj aoy (r.next dst) hnx;obtain ⟨j,Fj,bits,nx,mt,h1,h2,h3,h4,-,-,h7,-⟩:=h;have hT:=fun W (hW:Fr No w W)=>qw (h3.au hW) ((r.next dst:Int)-1);have hP:∀W,Fr No w W→W.cell? ⟨p,0,none⟩=some (.pointer (some ⟨j,0,none⟩))∧W.cell? ⟨p,4,none⟩=some (.int .i64 (r.commit:Int))∧W.cell? ⟨p,6+dst,none⟩=some (.int .i64 (r.next dst:Int)):=fun W hW=>let q:=h1.fr hW (fun h=>h);⟨q.cell 0,q.cell 4,by rw [←(h7.at_ hr hd).1];exact (pX q oy).1⟩;unfold Rs.app;have hpl:=h1.lt;generalize r.js.term=t at*;generalize (r.id:Int)=id at*;generalize dX r.js.log ((r.next dst:Int)-1)=pt at*;generalize r.next dst=nd at*;generalize (r.commit:Int)=cm at*;generalize hes:r.js.log.drop nd=es at*;have hb0:(0:Int)≤(dst:Int):=by omega
 have hb5:(dst:Int)<5:=by omega
 have hnd:(nd:Int)≤4096:=by omega
 clear h1 h2 h3 h4 h7 hok hr aoy hnx h5 hd hes;obtain ⟨HM,HT,HP,ar6⟩:=fV hm hT hP am0;clear hm hT hP am0
 go_in
 go_wp2_with fail
 refine (HM.out _ (aj _ _)).mono ?_;rintro e w1 ⟨rfl,f1⟩;obtain ⟨F1,B1⟩:=aN ((aj w (.cells #[.int .i64 0,.int .i64 0,.int .i64 0,.int .i64 0,.int .i64 0,.int .i64 0,.int .i64 0,.bool false,.slice none 0 0] TMs)).ah f1) ((Blk.new w TMs #[.int .i64 0,.int .i64 0,.int .i64 0,.int .i64 0,.int .i64 0,.int .i64 0,.int .i64 0,.bool false,.slice none 0 0]).fr f1 (fun h=>h));clear f1;obtain ⟨p0,p4,p6⟩:=HP.out _ F1.out;obtain ⟨p0',p4',p6'⟩:=HP.out _ (F1.out.alloc (.cells #[.int .i64 3,.int .i64 id,.int .i64 dst,.int .i64 t,.int .i64 0,.int .i64 0,.int .i64 0,.bool false,.slice none 0 0] TMs))
 go_wp2_with fail
 obtain ⟨W0,hW0⟩:∃W0,W0=w1.alloc (.cells #[.int .i64 3,.int .i64 id,.int .i64 dst,.int .i64 t,.int .i64 nd,.int .i64 0,.int .i64 0,.bool false,.slice none 0 0] TMs):=⟨_,rfl⟩;rw [←hW0];have hF:Fr No w W0:=by rw [hW0];exact F1.out.alloc _
 have q3:Blk W0 w.heap.size TMs #[.int .i64 0,.int .i64 0,.int .i64 0,.int .i64 0,.int .i64 0,.int .i64 0,.int .i64 0,.bool false,.slice none 0 0]:=by rw [hW0];exact B1.out.dJ _
 have q4:Blk W0 w1.heap.size TMs #[.int .i64 3,.int .i64 id,.int .i64 dst,.int .i64 t,.int .i64 nd,.int .i64 0,.int .i64 0,.bool false,.slice none 0 0]:=by rw [hW0];exact Blk.new _ _ _
 have hs1:=F1.out.size;have hl3:=B1.out.lt;obtain ⟨g4,hg4⟩:∃g,g=w1.heap.size:=⟨_,rfl⟩;obtain ⟨g3,hg3⟩:∃g,g=w.heap.size:=⟨_,rfl⟩;rw [←hg4] at q4;rw [←hg3] at q3;rw [←hg4,←hg3];have n4:w.heap.size≤g4:=by omega
 have n3:w.heap.size≤g3:=by omega
 have n34:g3≠g4:=by omega
 have qq:MAt W0 g3 g4 ⟨3,id,dst,t,nd,0,0,false,es⟩ (.slice none 0 0):=⟨q3,q4,n34⟩;clear hW0 hg4 hg3 hl3 hs1 F1 B1 q3 q4 p0 p4 p6 p0' p4' p6';obtain ⟨⟨x0,x1,x2,x3,x4,x5,x6,x7,x8⟩,y4,y5,y6,y7,y8⟩:=qq.jA;obtain ⟨p0,p4,p6⟩:=HP.out _ hF;have hwr:IntKind.i64.wrap ((nd:Int)-1)=(nd:Int)-1:=IntWalk.i64_in _ oy;have QQ:=O qq;clear qq
 go_region_held3 (fun V=>V.cell? ⟨p,0,none⟩=some (.pointer (some ⟨j,0,none⟩))∧V.cell? ⟨g4,4,none⟩=some (.int .i64 (nd:Int))) (first|(exact ⟨(HP.out _ (by repeat (with_reducible first|assumption|exact Fr.refl _ _|refine Fr.alloc ?_ _|refine Fr.drew ?_|refine Fr.drewN ?_ _|refine Fr.setCell ?_ (.inr (by assumption)) _))).1,(QQ.out.drew.jA).1.2.2.2.2.1⟩)|(exact ⟨(HP.out _ (by repeat (with_reducible first|assumption|exact Fr.refl _ _|refine Fr.alloc ?_ _|refine Fr.drew ?_|refine Fr.drewN ?_ _|refine Fr.setCell ?_ (.inr (by assumption)) _))).1,(QQ.out.jA).1.2.2.2.2.1⟩)|(exact ⟨(HP.out _ (by repeat (with_reducible first|assumption|exact Fr.refl _ _|refine Fr.alloc ?_ _|refine Fr.drew ?_|refine Fr.drewN ?_ _|refine Fr.setCell ?_ (.inr (by assumption)) _))).1,(K2.out.jA).1.2.2.2.2.1⟩)|(exact ⟨(HP.out _ (by repeat (with_reducible first|assumption|exact Fr.refl _ _|refine Fr.alloc ?_ _|refine Fr.drew ?_|refine Fr.drewN ?_ _|refine Fr.setCell ?_ (.inr (by assumption)) _))).1,((K2.out.aso _).jA).1.2.2.2.2.1⟩)) (first
  |(go_at_call 279;refine (HT.out _ (by repeat (with_reducible first|assumption|exact Fr.refl _ _|refine Fr.alloc ?_ _|refine Fr.drew ?_|refine Fr.drewN ?_ _|refine Fr.setCell ?_ (.inr (by assumption)) _))).mono ?_;rintro e w2 ⟨rfl,f2⟩;have Q2:Fr No w w2:=Fr.ah (by repeat (with_reducible first|assumption|exact Fr.refl _ _|refine Fr.alloc ?_ _|refine Fr.drew ?_|refine Fr.drewN ?_ _|refine Fr.setCell ?_ (.inr (by assumption)) _)) f2;have k2:=MAt.fr (by first|exact QQ.out.drew|exact QQ.out) f2;obtain ⟨⟨x0,x1,x2,x3,x4,x5,x6,x7,x8⟩,y4,y5,y6,y7,y8⟩:=k2.jA;obtain ⟨p0,p4,p6⟩:=HP.out _ Q2;have K2:=O k2;clear k2 f2))
 clear hwr
 go_wp2_with fail
 refine (ar6.out _ (by repeat (with_reducible first|assumption|exact Fr.refl _ _|refine Fr.alloc ?_ _|refine Fr.drew ?_|refine Fr.drewN ?_ _|refine Fr.setCell ?_ (.inr (by assumption)) _))).mono ?_;rintro e w3 ⟨A,c,rfl,o3,f3⟩;have Q3:Fr No w w3:=Fr.ah (by repeat (with_reducible first|assumption|exact Fr.refl _ _|refine Fr.alloc ?_ _|refine Fr.drew ?_|refine Fr.drewN ?_ _|refine Fr.setCell ?_ (.inr (by assumption)) _)) f3;have k3:=MAt.fr ((K2.out.aso pt).avw cm) f3;obtain ⟨⟨x0,x1,x2,x3,x4,x5,x6,x7,x8⟩,y4,y5,y6,y7,y8⟩:=k3.jA;obtain ⟨⟨z0,z1,z2,z3,z4,z5,z6,z7,z8⟩,v0,v1,v2,v3,v4,v5,v6,v7,v8⟩:=k3.cells3;have hs3:=Q2.size;have hl3:=K2.out.b3.lt;have hl4:=K2.out.b4.lt;obtain ⟨E3,K3⟩:=aN (Ent.wL (o3.mono (G:=fun b=>w2.heap.size≤b) fun i hi=>by simpa using hi)) k3;clear k3 f3 o3
 go_wp2_with fail
 refine bodyPost_ret (v:=Ms.v ⟨3,id,dst,t,nd,pt,cm,false,es⟩ (.slice A es.length c)) (kW ⟨3,id,dst,t,nd,pt,cm,false,es⟩ _ g3 _ _ (aa5 ⟨3,id,dst,t,nd,pt,cm,false,es⟩ (.slice A es.length c) (K3.out.avv _).b3) rfl) rfl ⟨_,rfl,?_,oG ⟨3,id,dst,t,nd,pt,cm,false,es⟩ (.slice A es.length c) (Q3.setCell (p:=⟨g4,8,none⟩) (.inr n4) _) n3⟩;have hf:Fr (fun i=>i=g3∨i=g4) w3 (w3.setCell ⟨g4,8,none⟩ (.slice A es.length c)):=(Fr.refl _ _).setCell (p:=⟨g4,8,none⟩) (.inl (.inr rfl)) _;exact (E3.out.fr (uG ⟨3,id,dst,t,nd,pt,cm,false,es⟩ (.slice A es.length c) hf (.inl rfl)) fun i hi hh=>by have hi2:w2.heap.size≤i:=hi;omega).mono fun i hi=>by have hi2:w2.heap.size≤i:=hi;omega
end
end
section
def alf (f:Nat→Int)(i:Nat)(x:Int):Nat→Int:=fun k=>if k=i then x else f k
theorem wz {w:World}{p j:Nat}{r:Rs}{bits:Int}{nx mt:Nat→Int}(h:Blk w p adn (fH j r bits nx mt)){i:Nat}(hi:i<5)(x:Int):Blk (w.setCell ⟨p,6+i,none⟩ (.int .i64 x)) p adn (fH j r bits (alf nx i x) mt):=by
 refine (h.aC (6+i) (.int .i64 x)).conv ?_
 match i,hi with
 |0,_=>rfl
 |1,_=>rfl
 |2,_=>rfl
 |3,_=>rfl
 |4,_=>rfl
theorem mD {w:World}{p j:Nat}{r:Rs}{bits:Int}{nx mt:Nat→Int}(h:Blk w p adn (fH j r bits nx mt)){i:Nat}(hi:i<5)(x:Int):Blk (w.setCell ⟨p,11+i,none⟩ (.int .i64 x)) p adn (fH j r bits nx (alf mt i x)):=by
 refine (h.aC (11+i) (.int .i64 x)).conv ?_
 match i,hi with
 |0,_=>rfl
 |1,_=>rfl
 |2,_=>rfl
 |3,_=>rfl
 |4,_=>rfl
section
variable {w w' :World}{F:Nat→Prop}{p:Nat}{r:Rs}{s:Js}{n:Nat}
def kE (w:World)(p j:Nat)(r:Rs)(bits ll:Int)(k:Nat)(W:World):Prop:=
 ∃nx mt:Nat→Int,Blk W p adn (fH j {r with role:=3} bits nx mt)∧(∀i,i<k→nx i=ll∧mt i=0)∧Fr (fun i=>i=p) w W
theorem kE.drew {w W:World}{p j:Nat}{r:Rs}{bits ll:Int}{k:Nat}(h:kE w p j r bits ll k W):kE w p j r bits ll k W.drew:=by
 obtain ⟨nx,mt,h1,h2,h3⟩:=h;exact ⟨nx,mt,h1,h2,h3.drew⟩
theorem kE.next {w W W' :World}{p j:Nat}{r:Rs}{bits ll:Int}{k:Nat}{nx mt:Nat→Int}(hb:Blk W p adn (fH j {r with role:=3} bits nx mt))(hk:∀i,i<k→nx i=ll∧mt i=0)(hf:Fr (fun i=>i=p) w W)(h5:k<5)
  (hW:W' =(W.setCell ⟨p,6+k,none⟩ (.int .i64 ll)).setCell ⟨p,11+k,none⟩ (.int .i64 0)∨W' =(W.setCell ⟨p,11+k,none⟩ (.int .i64 0)).setCell ⟨p,6+k,none⟩ (.int .i64 ll)):kE w p j r bits ll (k+1) W' :=by
 have hf' :Fr (fun i=>i=p) w W' :=by
  rcases hW with rfl|rfl
  ·exact (hf.setCell (p:=⟨p,6+k,none⟩) (.inl rfl) _).setCell (p:=⟨p,11+k,none⟩) (.inl rfl) _
  ·exact (hf.setCell (p:=⟨p,11+k,none⟩) (.inl rfl) _).setCell (p:=⟨p,6+k,none⟩) (.inl rfl) _
 refine ⟨alf nx k ll,alf mt k 0,?_,fun i hi=> ?_,hf'⟩
 ·rcases hW with rfl|rfl
  ·exact mD (wz hb h5 ll) h5 0
  ·exact wz (mD hb h5 0) h5 ll
 ·simp only [alf]
  by_cases e:i=k
  ·simp [e]
  ·rw [if_neg e,if_neg e]
   exact hk i oy
theorem alx (h:RAt w F p r n):Calls Tryz.prog 249 #[.pointer (some ⟨p,0,none⟩)] w fun e w' =>e= .returned (.tuple #[])∧RTo w F p r.lead n w' :=by
 have hok:=h.ok;have hid:=hok.idn;have h5n:=hok.five;obtain ⟨j,Fj,bits,nx,mt,h1,h2,h3,h4,h5,h6,h7,-⟩:=h;have hfin:=fun W (hl:kE w p j r bits r.js.log.length r.n W)=>(let ⟨nx',mt',k1,k2,k3⟩:=hl;RAt.cells (r:=r) (r' :=r.lead) h2 h3 h4 h5 h6 k3 (nx' :=nx') (mt' :=mt') k1 rfl ⟨fun hh=>by simp [Rs.lead] at hh,fun _ i hi=>k2 i hi⟩ hok.lead:RTo w F p r.lead n W);have hLen:=fun W (hf:Fr (fun i=>i=p) w W) (hc:W.cell? ⟨p,0,none⟩=some (.pointer (some ⟨j,0,none⟩)))=>aay (w:=W) (p:=p) (s:=r.js) (n:=n) ⟨j,Fj,hc,h3.fr hf fun i hi he=>h5 (he▸hi),h5⟩;have c3:w.cell? ⟨p,3,none⟩=some (.int .i64 r.role):=h1.cell 3;have f3:=h1.frozen 3;have b0:kE w p j r bits r.js.log.length 0 (w.setCell ⟨p,3,none⟩ (.int .i64 3)):=⟨nx,mt,(h1.aC 3 _).conv rfl,fun i hi=>by omega,(Fr.refl (fun i=>i=p) w).setCell (p:=⟨p,3,none⟩) (.inl rfl) _⟩;have d2:(w.setCell ⟨p,3,none⟩ (.int .i64 3)).cell? ⟨p,2,none⟩=some (.int .i64 (r.n:Int)):=(h1.aC 3 (.int .i64 3)).cell 2;generalize r.js.log.length=ll at*;clear h1 h2 h3 h4 h5 h6 h7 hok;obtain ⟨eu,HLEN,B0⟩:=bC hfin hLen b0;clear hfin hLen b0
 go_in
 go_wp2_with fail
 go_loopw [10] (fun i wr=>∃k:Nat,k≤r.n∧i= .int .i64 k∧kE w p j r bits ll k wr) (fun i _=>r.n-(intOf i).toNat)
 case atStart=>exact ⟨0,Nat.zero_le _,rfl,B0.out⟩
 case round=>
  obtain ⟨k,hk,rfl,nx',mt',hb,hkk,hf⟩:=hrel;have hdone:=fun (he:k=r.n)=>eu.out wr (he▸⟨nx',mt',hb,hkk,hf⟩)
  by_cases hlt:k<r.n
  ·have hlt2:(k:Int)<(r.n:Int):=by omega
   have h5k:k<5:=by omega
   have i0:(0:Int)≤(k:Int):=by omega
   have i5:(k:Int)<5:=by omega
   have hnext:=fun W' hW=>kE.next (W' :=W') hb hkk hf h5k hW;have c0:wr.cell? ⟨p,0,none⟩=some (.pointer (some ⟨j,0,none⟩)):=hb.cell 0;obtain ⟨c6,c11⟩:=pX hb h5k;have f6:=hb.frozen (6+k);have f11:=hb.frozen (11+k);have c0' :(wr.setCell ⟨p,11+k,none⟩ (.int .i64 0)).cell? ⟨p,0,none⟩=some (.pointer (some ⟨j,0,none⟩)):=(mD hb h5k 0).cell 0;have n1:(6+k:Nat)≠11+k:=by omega
   have n2:(11+k:Nat)≠6+k:=by omega
   clear hdone hb hkk d2;have lJ:=O hnext;have C0' :=O c0';clear hnext c0'
   go_wp2_with fail
   go_region_held3 (fun V=>True) (exact trivial) (first
    |(go_at_call 253;refine (HLEN.out _ (by repeat (with_reducible first|assumption|exact Fr.refl _ _|refine Fr.alloc ?_ _|refine Fr.drew ?_|refine Fr.drewN ?_ _|refine Fr.setCell ?_ (.inl rfl) _)) (by first|exact c0|exact C0'.out)).mono ?_;rintro e w5 ⟨rfl,rfl⟩))
   all_goals
    go_wp2_with fail
    go_roundw
    case rel=>exact ⟨k+1,by omega,by go_num,(by first|exact (lJ.out _ (.inl rfl)).drew|exact (lJ.out _ (.inr rfl)).drew|exact lJ.out _ (.inl rfl)|exact lJ.out _ (.inr rfl))⟩
    case measure=>simp [intOf];omega
  ·have hge:k=r.n:=by omega
   have T:=O (hdone hge);have t1:decide (k<r.n)=false:=by simpa using hlt
   clear hb hkk hdone
   go_wp2_with fail
   go_end0
   exact ⟨rfl,T.out⟩
end
end
section
theorem uF:(Tryz.prog.info? TMs).map (fun i=>(i.zero,i.size,i.bytes))=some (some (.agg #[.int .i64 0,.int .i64 0,.int .i64 0,.int .i64 0,.int .i64 0,.int .i64 0,.int .i64 0,.bool false,.slice none 0 0]),9,88):=by kernel_rfl
theorem mJ (id k:Nat):others id (k+1)=others id k++if k=id then [] else [k]:=by
 unfold others;rw [List.range_succ,List.filter_append]
 congr 1
 by_cases h:k=id<;>simp [h]
theorem oz (id k:Nat):(others id k).length≤k:=by
 have:=List.length_filter_le (fun x=>x != id) (List.range k)
 simpa [others] using this
def Lst (w0:World)(ms:List Ms)(v:Value)(w:World):Prop:=(∃A c,v= .slice A ms.length c)∧kC w (fun b=>w0.heap.size≤b) v ms∧Fr No w0 w
theorem Lst.nil (w:World):Lst w [] (.slice none 0 0) w:=⟨⟨none,0,rfl⟩,kC.nil _ _,Fr.refl _ _⟩
theorem Lst.to {w0 w:World}{ms:List Ms}{v:Value}(h:Lst w0 ms v w):zD w0 ms (.returned v) w:=by
 obtain ⟨⟨A,c,rfl⟩,h2,h3⟩:=h;exact ⟨A,c,rfl,h2,h3⟩
section
variable {w w' :World}{F:Nat→Prop}{p:Nat}{r:Rs}{s:Js}{n:Nat}
theorem rX (h:RAt w F p r n)(hr:r.role=3):Calls Tryz.prog 250 #[.pointer (some ⟨p,0,none⟩),.func (.func 258) #[.pointer (some ⟨p,0,none⟩)] #[]] w (zD w ((others r.id r.n).map r.app)):=by
 obtain ⟨i1,hi1,hz0,hz1,hz2⟩:=info_parts uF;have hC:∀W,Fr No w W→∀k,k<r.n→Calls Tryz.prog 258 #[.pointer (some ⟨p,0,none⟩),.int .i64 (k:Int)] W (akj W (r.app k)):=fun W hW k hk=>uD (h.au hW) hr k hk;have h5:=h.ok.five;obtain ⟨j,Fj,bits,nx,mt,h1,-⟩:=h;have hP:∀W,Fr No w W→W.cell? ⟨p,1,none⟩=some (.int .i64 (r.id:Int)):=fun W hW=>(h1.fr hW (fun h=>h)).cell 1;have c2:w.cell? ⟨p,2,none⟩=some (.int .i64 (r.n:Int)):=h1.cell 2;generalize r.id=id at*;generalize r.n=nn at*;clear h1;obtain ⟨HC,HP⟩:=aN hC hP;clear hC hP
 go_in
 go_wp2_with fail
 go_loopw [5,11] (fun v i wr=>∃k:Nat,k≤nn∧i= .int .i64 k∧Lst w ((others id k).map r.app) v wr) (fun _ i _=>nn-(intOf i).toNat)
 case atStart=>exact ⟨0,Nat.zero_le _,rfl,Lst.nil _⟩
 case round=>
  obtain ⟨k,hk,rfl,abv⟩:=hrel;have vR:=O abv;clear abv;have c1:=HP.out _ vR.out.2.2
  by_cases hlt:k<nn
  ·have hlt2:(k:Int)<(nn:Int):=by omega
   have hos:=mJ id k
   by_cases hid:k=id
   ·subst hid
    rw [if_pos rfl,List.append_nil] at hos;have HOS:=O hos;clear hos
    go_wp2_with fail
    go_roundw
    case rel=>exact ⟨k+1,by omega,by go_num,by rw [HOS.out];exact vR.out⟩
    case measure=>simp [intOf];omega
   ·rw [if_neg hid] at hos
    have t1:((k:Int) == (id:Int))=false:=by simp;omega
    have t2:((k:Int) != (id:Int))=true:=by simp;omega
    have hol:=oz id k;obtain ⟨ms,hms⟩:∃ms,ms=(others id k).map r.app:=⟨_,rfl⟩;have hml:ms.length≤5:=by rw [hms,List.length_map];omega
    have hnx:(others id (k+1)).map r.app=ms++[r.app k]:=by rw [hos,List.map_append,hms];rfl
    have abv:=vR.out;rw [←hms] at abv;obtain ⟨⟨A,c,rfl⟩,⟨Gs,Ge,vs,q1,q2,q3⟩,q4⟩:=abv;have hsn:=fun (W2 W3:World) (v' x:Value) (m:Ms) (hf2:Fr No wr W2) hx (ha:aJ W2 0 TMs 9 (.slice A ms.length c) ms.length (msV ms vs) (m.cells x) 1 v' W3)=>iU.snoc (G:=fun b=>w.heap.size≤b) (W:=wr) (m:=m) (x:=x) q1 (fun i hi=>by have:=q4.size;omega) q2 q3 hf2 hx ha;have hown:=fun W (hf:Fr No wr W)=>(q1.own.au hf).1;have hG:=q2;have Q4:=O q4;clear q1 q2 q3 q4 vR hms hos;have hCk:=HC.out _ Q4.out k hlt;generalize r.app k=m at*;obtain ⟨HSN,HOWN,HG,HNX,HCK⟩:=jq hsn hown hG hnx hCk;clear hsn hown hG hnx hCk
    go_wp2_with fail
    refine HCK.out.mono ?_;rintro e w5 ⟨x,rfl,hx,f5⟩;obtain ⟨HX,F5⟩:=aN hx f5;clear hx f5
    go_wp2_with (at_builtin;refine aB _ rfl (.tmp 20) (.tmp 24) _ rfl 0 TMs i1 _ 9 88 Tryz.underlying242 hi1 hz0 hz1 hz2 rfl dcd (.slice A ms.length c) ms.length (msV ms vs) rfl (HOWN.out _ (F5.out.alloc _)) (w5.heap.size+1) (some ⟨w5.heap.size,0,none⟩) 1 1 (Ms.cells m x) rfl ?ka1 ?ka2 ?ka3 ?ka4 ?ka5 ?ka6 ?ka7 ?_)
    case ka1=>exact fun h=>by cases h
    case ka2=>exact Rd.new _ _ _ rfl
    case ka3=>rfl
    case ka4=>exact aa4 m HX.out
    case ka5=>unfold maxLen;omega
    case ka6=>omega
    case ka7=>exact Nat.zero_le _
    intro v1 w6 happ;obtain ⟨A',c',rfl,-⟩:=ay happ.1;obtain ⟨hl,f6⟩:=HSN.out _ _ _ x m (F5.out.alloc _) (HX.out.au (aj _ _)) happ;have Q6:=O ((Q4.out.ah (F5.out.alloc _)).aD f6 HG.out);clear happ f6;have HL:=O hl;clear hl
    go_wp2_with fail
    go_roundw
    case rel=>exact ⟨k+1,by omega,by go_num,⟨A',c',by rw [HNX.out,List.length_append];rfl⟩,by rw [HNX.out];exact HL.out,Q6.out⟩
    case measure=>simp [intOf];omega
  ·have hge:k=nn:=by omega
   subst hge;have t1:decide ((k:Int)<(k:Int))=false:=by simp
   obtain ⟨A,c,hv⟩:=vR.out.1;have HL2:=O vR.out.to;clear vR;rw [hv] at*
   go_wp2_with fail
   go_ret
   exact HL2.out
theorem uz (h:RAt w F p r n)(b:Nat)(hb:w.cell? ⟨b,0,none⟩=some (.pointer (some ⟨p,0,none⟩))):Calls Tryz.prog 250 #[.pointer (some ⟨p,0,none⟩),.func (.func 251) #[] #[.pointer (some ⟨b,0,none⟩)]] w (zD w ((others r.id r.n).map r.fZ)):=by
 obtain ⟨i1,hi1,hz0,hz1,hz2⟩:=info_parts uF;have hbl:=qA hb;have hbb:=fun W (hW:Fr No w W)=>(hW.cell (p:=⟨b,0,none⟩) hbl (fun h=>h)).trans hb;have hC:∀W,Fr No w W→∀k,k<r.n→Calls Tryz.prog 251 #[.int .i64 (k:Int),.pointer (some ⟨b,0,none⟩)] W (akj W (r.fZ k)):=fun W hW k hk=>(avy (h.au hW) (k:Int) b (hbb W hW)).mono fun e w' ⟨e1,e2⟩=>⟨_,e1,Ent.nil _ _,e2⟩;have h5:=h.ok.five;obtain ⟨j,Fj,bits,nx,mt,h1,-⟩:=h;have hP:∀W,Fr No w W→W.cell? ⟨p,1,none⟩=some (.int .i64 (r.id:Int)):=fun W hW=>(h1.fr hW (fun h=>h)).cell 1;have c2:w.cell? ⟨p,2,none⟩=some (.int .i64 (r.n:Int)):=h1.cell 2;generalize r.id=id at*;generalize r.n=nn at*;clear hb hbl hbb;clear h1;obtain ⟨HC,HP⟩:=aN hC hP;clear hC hP
 go_in
 go_wp2_with fail
 go_loopw [5,11] (fun v i wr=>∃k:Nat,k≤nn∧i= .int .i64 k∧Lst w ((others id k).map r.fZ) v wr) (fun _ i _=>nn-(intOf i).toNat)
 case atStart=>exact ⟨0,Nat.zero_le _,rfl,Lst.nil _⟩
 case round=>
  obtain ⟨k,hk,rfl,abv⟩:=hrel;have vR:=O abv;clear abv;have c1:=HP.out _ vR.out.2.2
  by_cases hlt:k<nn
  ·have hlt2:(k:Int)<(nn:Int):=by omega
   have hos:=mJ id k
   by_cases hid:k=id
   ·subst hid
    rw [if_pos rfl,List.append_nil] at hos;have HOS:=O hos;clear hos
    go_wp2_with fail
    go_roundw
    case rel=>exact ⟨k+1,by omega,by go_num,by rw [HOS.out];exact vR.out⟩
    case measure=>simp [intOf];omega
   ·rw [if_neg hid] at hos
    have t1:((k:Int) == (id:Int))=false:=by simp;omega
    have t2:((k:Int) != (id:Int))=true:=by simp;omega
    have hol:=oz id k;obtain ⟨ms,hms⟩:∃ms,ms=(others id k).map r.fZ:=⟨_,rfl⟩;have hml:ms.length≤5:=by rw [hms,List.length_map];omega
    have hnx:(others id (k+1)).map r.fZ=ms++[r.fZ k]:=by rw [hos,List.map_append,hms];rfl
    have abv:=vR.out;rw [←hms] at abv;obtain ⟨⟨A,c,rfl⟩,⟨Gs,Ge,vs,q1,q2,q3⟩,q4⟩:=abv;have hsn:=fun (W2 W3:World) (v' x:Value) (m:Ms) (hf2:Fr No wr W2) hx (ha:aJ W2 0 TMs 9 (.slice A ms.length c) ms.length (msV ms vs) (m.cells x) 1 v' W3)=>iU.snoc (G:=fun b=>w.heap.size≤b) (W:=wr) (m:=m) (x:=x) q1 (fun i hi=>by have:=q4.size;omega) q2 q3 hf2 hx ha;have hown:=fun W (hf:Fr No wr W)=>(q1.own.au hf).1;have hG:=q2;have Q4:=O q4;clear q1 q2 q3 q4 vR hms hos;have hCk:=HC.out _ Q4.out k hlt;generalize r.fZ k=m at*;obtain ⟨HSN,HOWN,HG,HNX,HCK⟩:=jq hsn hown hG hnx hCk;clear hsn hown hG hnx hCk
    go_wp2_with fail
    refine HCK.out.mono ?_;rintro e w5 ⟨x,rfl,hx,f5⟩;obtain ⟨HX,F5⟩:=aN hx f5;clear hx f5
    go_wp2_with (at_builtin;refine aB _ rfl (.tmp 20) (.tmp 24) _ rfl 0 TMs i1 _ 9 88 Tryz.underlying242 hi1 hz0 hz1 hz2 rfl dcd (.slice A ms.length c) ms.length (msV ms vs) rfl (HOWN.out _ (F5.out.alloc _)) (w5.heap.size+1) (some ⟨w5.heap.size,0,none⟩) 1 1 (Ms.cells m x) rfl ?kb1 ?kb2 ?kb3 ?kb4 ?kb5 ?kb6 ?kb7 ?_)
    case kb1=>exact fun h=>by cases h
    case kb2=>exact Rd.new _ _ _ rfl
    case kb3=>rfl
    case kb4=>exact aa4 m HX.out
    case kb5=>unfold maxLen;omega
    case kb6=>omega
    case kb7=>exact Nat.zero_le _
    intro v1 w6 happ;obtain ⟨A',c',rfl,-⟩:=ay happ.1;obtain ⟨hl,f6⟩:=HSN.out _ _ _ x m (F5.out.alloc _) (HX.out.au (aj _ _)) happ;have Q6:=O ((Q4.out.ah (F5.out.alloc _)).aD f6 HG.out);clear happ f6;have HL:=O hl;clear hl
    go_wp2_with fail
    go_roundw
    case rel=>exact ⟨k+1,by omega,by go_num,⟨A',c',by rw [HNX.out,List.length_append];rfl⟩,by rw [HNX.out];exact HL.out,Q6.out⟩
    case measure=>simp [intOf];omega
  ·have hge:k=nn:=by omega
   subst hge;have t1:decide ((k:Int)<(k:Int))=false:=by simp
   obtain ⟨A,c,hv⟩:=vR.out.1;have HL2:=O vR.out.to;clear vR;rw [hv] at*
   go_wp2_with fail
   go_ret
   exact HL2.out
end
end
section
theorem agl (r:Rs){k:Nat}(h:k≤r.commit):r.pE k=r.commit:=by
 rcases k with _|k
 ·rfl
 ·simp only [Rs.pE];rw [if_pos h]
theorem ac8 (r:Rs){k:Nat}(h:r.commit<k+1)(hn:¬(dX r.js.log (k:Int)=r.js.term∧r.n<2*r.stores (k+1) r.n)):r.pE (k+1)=r.pE k:=by
 simp only [Rs.pE];rw [if_neg oy,if_neg hn]
theorem agk (r:Rs){k:Nat}(h:r.commit<k+1)(hn:dX r.js.log (k:Int)=r.js.term∧r.n<2*r.stores (k+1) r.n):r.pE (k+1)=k+1:=by
 simp only [Rs.pE];rw [if_neg oy,if_pos hn]
theorem aad (r:Rs)(m:Nat):∀k,r.stores m k≤k+1:=by
 intro k
 induction k with
 |zero=>exact Nat.le_refl _
 |succ k ih=>simp only [Rs.stores];split<;>omega
theorem agj (r:Rs)(h:r.pE r.js.log.length=r.commit):r.advance=r:=by unfold Rs.advance;rw [h]
section
variable {w w' :World}{F:Nat→Prop}{p:Nat}{r:Rs}{s:Js}{n:Nat}
theorem aaz (h:RAt w F p r n)(hr:r.role=3):Calls Tryz.prog 257 #[.pointer (some ⟨p,0,none⟩)] w fun e w' =>e= .returned (.tuple #[])∧RTo w F p r.advance n w' :=by
 have hok:=h.ok;have hid:=hok.idn;have h5n:=hok.five;have aoy:=hok.log.few;have hcom:=hok.com;have hLen:=aay h.rj;have nk:=fun W (hW:Fr No w W)=>rW (h.au hW).rj;have hstill:=fun W (hf:Fr No w W) (he:r.pE r.js.log.length=r.commit)=>((agj r he).symm▸h.still hf:RTo w F p r.advance n W);obtain ⟨j,Fj,bits,nx,mt,h1,h2,h3,h4,h5,h6,h7,-⟩:=h;have hput:=fun W (k:Nat) (x:Int) (hx:x=k) (hf:Fr No w W) (he:r.pE r.js.log.length=k)=>RTo.after hf (RAt.cells (w:=W) (w' :=W.setCell ⟨p,4,none⟩ (.int .i64 x)) (r:=r) (r' :=r.advance) (n:=n) h2 (h3.au hf) h4 h5 (fun i hi=>nll (h6 i hi) hf.size) (bits' :=bits) (nx' :=nx) (mt' :=mt) (gU _ ⟨p,4,none⟩ _) (((h1.fr hf id).aC 4 _).conv (by subst hx he;rfl)) rfl h7 hok.advance);have hT:=fun W (hW:Fr No w W) i=>qw (h3.au hW) i;have hP:∀W,Fr No w W→W.cell? ⟨p,0,none⟩=some (.pointer (some ⟨j,0,none⟩))∧W.cell? ⟨p,1,none⟩=some (.int .i64 (r.id:Int))∧W.cell? ⟨p,2,none⟩=some (.int .i64 (r.n:Int))∧W.cell? ⟨p,4,none⟩=some (.int .i64 (r.commit:Int))∧W.frozen? ⟨p,4,none⟩=false:=fun W hW=>let q:=h1.fr hW id;⟨q.cell 0,q.cell 1,q.cell 2,q.cell 4,q.frozen 4⟩;have hM:∀W,Fr No w W→∀i,i<r.n→W.cell? ⟨p,11+i,none⟩=some (.int .i64 (r.qI i:Int)):=fun W hW i hi=>by rw [←(h7.at_ hr hi).2];exact (pX (h1.fr hW id) oy).2
 clear h1 h2 h3 h4 h5 h6 h7 hok;obtain ⟨HLEN,qH,lG,ags,HT,HP,HM⟩:=jo hLen nk hstill hput hT hP hM;clear hLen nk hstill hput hT hP hM
 go_in
 go_wp2_with fail
 refine HLEN.out.mono ?_;rintro e w1 ⟨rfl,rfl⟩
 go_wp2_with fail
 go_loopw [2] (fun m wr=>∃k:Nat,k≤r.js.log.length∧m= .int .i64 k∧r.pE r.js.log.length=r.pE k∧Fr No w wr) (fun m _=>(intOf m).toNat)
 case atStart=>exact ⟨_,Nat.le_refl _,rfl,rfl,Fr.refl _ _⟩
 case round=>
  obtain ⟨k,hk,rfl,auk,hf⟩:=hrel;obtain ⟨c0,c1,c2,c4,f4⟩:=HP.out _ hf;obtain ⟨apg,HF⟩:=aN auk hf;clear auk hf
  by_cases hlt:r.commit<k
  ·obtain ⟨m,rfl⟩:∃m,k=m+1:=⟨k-1,by omega⟩
   have hlt2:(r.commit:Int)<((m+1:Nat):Int):=by omega
   have hT2:=HT.out _ HF.out (m:Int);have hmb:(m:Int)≤4096:=by omega
   by_cases ht:dX r.js.log (m:Int)=r.js.term
   ·have amo:=fun W hf (he:r.pE r.js.log.length=m+1)=>ags.out W (m+1) ((m:Int)+1) oy hf he
    have hyes:=fun hh=>apg.out.trans (agk r hlt ⟨ht,hh⟩);have hno:=fun (hh:¬r.n<2*r.stores (m+1) r.n)=>apg.out.trans (ac8 r hlt fun h=>hh h.2);rw [ht] at hT2;generalize r.js.term=tt at*;have t1:(tt == tt)=true:=by simp
    have t2:(tt != tt)=false:=by simp
    have hle:=fun k=>aad r (m+1) k;clear ht;obtain ⟨HNO,axg,HT2,arz,HLE⟩:=jq hno hyes hT2 amo hle;clear hno hyes hT2 amo hle
    go_wp2_with fail
    refine HT2.out.mono ?_;rintro e w2 ⟨rfl,f2⟩;have F2:=O (HF.out.ah f2);clear f2
    go_wp2_with fail
    refine (qH.out _ F2.out).mono ?_;rintro e w3 ⟨rfl,rfl⟩;obtain ⟨c0,c1,c2,c4,f4⟩:=HP.out _ F2.out
    go_wp2_with fail
    go_loop [3,29] (fun c i=>∃k:Nat,k≤r.n∧i= .int .i64 k∧c= .int .i64 (r.stores (m+1) k:Int)) (fun _ i=>r.n-(intOf i).toNat)
    case atStart=>exact ⟨0,Nat.zero_le _,rfl,rfl⟩
    case round=>
     obtain ⟨k,hk,rfl,rfl⟩:=hrel;have hle1:=HLE.out k
     by_cases hkn:k<r.n
     ·have hkn2:(k:Int)<(r.n:Int):=by omega
      have i0:(0:Int)≤(k:Int):=by omega
      have i5:(k:Int)<5:=by omega
      have hst:r.stores (m+1) (k+1)=r.stores (m+1) k+if k≠r.id∧m+1≤r.qI k then 1 else 0:=rfl
      have c11:=HM.out _ F2.out k hkn
      by_cases hki:k=r.id
      ·have u1:((k:Int) == (r.id:Int))=true:=by simp;omega
       have u2:((k:Int) != (r.id:Int))=false:=by simp;omega
       rw [if_neg (fun hh=>hh.1 hki),Nat.add_zero] at hst;have HST:=O hst;clear hst
       go_wp2_with fail
       go_round
       case rel=>exact ⟨k+1,by omega,by go_num,by rw [HST.out];rfl⟩
       case measure=>simp [intOf];omega
      ·have u1:((k:Int) == (r.id:Int))=false:=by simp;omega
       have u2:((k:Int) != (r.id:Int))=true:=by simp;omega
       by_cases hmk:m+1≤r.qI k
       ·have v1:decide (((m:Int)+1)≤(r.qI k:Int))=true:=by simp;omega
        have v2:decide (m+1≤r.qI k)=true:=by simp;omega
        have v3:((m:Int)+1)≤(r.qI k:Int):=by omega
        rw [if_pos ⟨hki,hmk⟩] at hst;have HST:=O hst;clear hst
        go_wp2_with fail
        go_round
        case rel=>exact ⟨k+1,by omega,by go_num,by rw [HST.out];go_num⟩
        case measure=>simp [intOf];omega
       ·have v1:decide (((m:Int)+1)≤(r.qI k:Int))=false:=by simp;omega
        have v2:decide (m+1≤r.qI k)=false:=by simp;omega
        have v3:¬((m:Int)+1)≤(r.qI k:Int):=by omega
        rw [if_neg (fun hh=>hmk hh.2),Nat.add_zero] at hst;have HST:=O hst;clear hst
        go_wp2_with fail
        go_round
        case rel=>exact ⟨k+1,by omega,by go_num,by rw [HST.out];rfl⟩
        case measure=>simp [intOf];omega
     ·obtain rfl:k=r.n:=by omega
      have u1:decide (r.n<r.n)=false:=by simp
      by_cases ata:r.n<2*r.stores (m+1) r.n
      ·have v1:(r.n:Int)<2*(r.stores (m+1) r.n:Int):=by omega
       have P:=O (arz.out _ F2.out (axg.out ata))
       go_wp2_with fail
       exact bodyPost_ret (v:= .tuple #[]) (by simp [results,Tryz.results257,go_sem]) rfl ⟨rfl,P.out⟩
      ·have v1:¬(r.n:Int)<2*(r.stores (m+1) r.n:Int):=by omega
       have NO:=O (HNO.out ata)
       go_wp2_with fail
       go_roundw
       case rel=>exact ⟨m,by omega,by go_num,NO.out,F2.out⟩
       case measure=>simp [intOf]
   ·have hno:=apg.out.trans (ac8 r hlt (fun hh=>ht hh.1))
    generalize dX r.js.log (m:Int)=tm at*;generalize r.js.term=tt at*;have t1:(tm == tt)=false:=by simpa using ht
    have t2:(tm != tt)=true:=by simpa using ht
    clear ht;obtain ⟨HNO,HT2⟩:=aN hno hT2;clear hno hT2
    go_wp2_with fail
    refine HT2.out.mono ?_;rintro e w2 ⟨rfl,f2⟩;have F2:=O (HF.out.ah f2);clear f2
    go_wp2_with fail
    refine (qH.out _ F2.out).mono ?_;rintro e w3 ⟨rfl,rfl⟩
    go_wp2_with fail
    go_roundw
    case rel=>exact ⟨m,by omega,by go_num,HNO.out,F2.out⟩
    case measure=>simp [intOf]
  ·have hge:¬(r.commit:Int)<(k:Int):=by omega
   have E:=O (lG.out _ HF.out (apg.out.trans (agl r oy)));have t1:decide (r.commit<k)=false:=by simpa using hlt
   go_wp2_with fail
   go_end0
   exact ⟨rfl,E.out⟩
end
end
section
def jE (w:World)(F:Nat→Prop)(p:Nat)(x:Rs×List Ms)(n:Nat)(e:Ending)(w' :World):Prop:=
 ∃A c F' G,e= .returned (.slice A x.2.length c)∧kC w' G (.slice A x.2.length c) x.2∧RAt w' F' p x.1 n∧(∀i,F' i→F i∨w.heap.size≤i)∧(∀i,G i→w.heap.size≤i)∧(∀i,F' i→¬G i)∧Fr F w w'
theorem jE.mk' {w w1 w' :World}{F:Nat→Prop}{p n:Nat}{r:Rs}{ms:List Ms}{e:Ending}(h:RTo w F p r n w1)(k:zD w1 ms e w'):jE w F p (r,ms) n e w' :=by
 obtain ⟨F',h1,h2,h3⟩:=h;obtain ⟨A,c,k1,k2,k3⟩:=k;refine ⟨A,c,F',_,k1,k2,h1.au k3,h2,fun i hi=>Nat.le_trans h3.size hi,fun i hi hh=> ?_,h3.trans k3 fun _ hi=>hi.elim⟩;have:=h1.lt i hi;have hh2:w1.heap.size≤i:=hh
 omega
theorem zD.none_ (w:World):zD w [] (.returned (.slice none 0 0)) w:=⟨none,0,rfl,kC.nil _ _,Fr.refl _ _⟩
theorem RAt.apq {w:World}{F:Nat→Prop}{p n:Nat}{r:Rs}(h:RAt w F p r n):F p:=let ⟨_,_,_,_,_,_,h2,_⟩:=h;h2
section
variable {w w' :World}{F:Nat→Prop}{p:Nat}{r:Rs}{s:Js}{n:Nat}
theorem yH (h:RAt w F p r n)(hsz:n+200≤140737488355328):Calls Tryz.prog 203 #[.pointer (some ⟨p,0,none⟩)] w (jE w F p r.bB (n+48)):=by
 have hok:=h.ok;have hid:=hok.idn;have h5n:=hok.five;have hlo:=hok.lo;have hhi:=hok.hi;obtain ⟨W0,hW0⟩:∃W0,W0=w.alloc (.cells #[.pointer (some ⟨p,0,none⟩)] 260):=⟨_,rfl⟩;have hf0:Fr No w W0:=by rw [hW0];exact aj _ _
 have hb:Blk W0 w.heap.size 260 #[.pointer (some ⟨p,0,none⟩)]:=by rw [hW0];exact Blk.new _ _ _
 have hbF:¬F w.heap.size:=fun hh=>by have:=h.lt _ hh;omega
 have hle:=h.more (m:=n+48) oy;have h0:=h.au hf0;obtain ⟨b,hbb⟩:∃b,b=w.heap.size:=⟨_,rfl⟩;rw [←hbb] at hb hbF;have cb:W0.cell? ⟨b,0,none⟩=some (.pointer (some ⟨p,0,none⟩)):=hb.cell 0;have hbp:b≠p:=fun hh=>hbF (hh▸h.apq)
 by_cases hT:1073741824≤r.js.term
 ·have hpl:r.bB=(r,[]):=by unfold Rs.bB;rw [if_pos hT]
  rw [hpl];have nk:=rW h0.rj;have hfin:=jE.mk' (hle.still hf0) (zD.none_ W0);generalize r.js.term=t at*;clear h h0 hle hok hb hbF hf0 hpl;obtain ⟨qH,eu,HW0,HBB⟩:=fV nk hfin hW0 hbb;clear nk hfin hW0 hbb
  go_in
  go_wp2_with fail
  rw [←HBB.out,←HW0.out];refine qH.out.mono ?_;rintro e w1 ⟨rfl,rfl⟩
  go_wp2_with fail
  go_ret
  exact eu.out
 ·obtain ⟨sx,sj⟩:=qZ r.js (r.js.term+1) r.id oy oy oy oy (.inl oy)
  have aqj:=fun W (hf:Fr No W0 W)=>yF (h0.au hf) (r.js.term+1) r.id (by rw [sj];exact ⟨hok.log.up (by simp only;omega),by simp only;omega,by simp only;omega,by simp only;omega,by simp only;omega,hok.idn,hok.five,hok.role,hok.com,hok.vts,hok.nxt,hok.mts⟩) hsz;rw [sj] at aqj;have nk:=fun W (hf:Fr No W0 W)=>rW (h0.au hf).rj;have hP:∀W,Fr No W0 W→W.cell? ⟨p,1,none⟩=some (.int .i64 (r.id:Int))∧W.cell? ⟨b,0,none⟩=some (.pointer (some ⟨p,0,none⟩)):=fun W hW=>⟨(let ⟨_,_,_,_,_,h1,_⟩:=h0.au hW;h1.cell 1),(hb.fr hW id).cell 0⟩;have hwr:IntKind.i64.wrap (r.js.term+1)=r.js.term+1:=IntWalk.i64_in _ oy;have hT2:r.js.term<1073741824:=by omega
  have hB:∀W W',Fr No W0 W→Fr F W W'→Blk W' b 260 #[.pointer (some ⟨p,0,none⟩)]:=fun W W' hf hf' =>((hb.fr hf id).fr hf' hbF);have hv:IntKind.i64.wrap (2 ^ min (IntKind.u64.wrap (r.id:Int)).toNat 64)=((2 ^ r.id:Nat):Int):=by
   have:r.id<5:=by omega
   revert this;generalize r.id=i;intro hi
   match i,hi with
   |0,_=>decide
   |1,_=>decide
   |2,_=>decide
   |3,_=>decide
   |4,_=>decide
  have awd:=hok.bB;have hp1:r.n=1→r.bB=(({r with js:=⟨r.js.term+1,r.id,r.js.log⟩,role:=2,gW:=2 ^ r.id}:Rs).lead,[]):=fun hh=>by unfold Rs.bB;rw [if_neg hT,if_pos hh]
  have hp2:¬r.n=1→r.bB=(({r with js:=⟨r.js.term+1,r.id,r.js.log⟩,role:=2,gW:=2 ^ r.id}:Rs),(others r.id r.n).map ({r with js:=⟨r.js.term+1,r.id,r.js.log⟩,role:=2,gW:=2 ^ r.id}:Rs).fZ):=fun hh=>by unfold Rs.bB;rw [if_neg hT,if_neg hh]
  have hok1:gJ {r with js:=⟨r.js.term+1,r.id,r.js.log⟩,role:=2,gW:=2 ^ r.id}:=⟨hok.log.up (by simp only;omega),by simp only;omega,by simp only;omega,by simp only;omega,by simp only;omega,hok.idn,hok.five,.inr (.inl rfl),hok.com,by
   have:(2:Nat) ^ r.id<2 ^ 5:=Nat.pow_lt_pow_right oy oy
   simpa using this,fun hh=>by simp at hh,fun hh=>by simp at hh⟩
  have hall:=fun (V w2 W4:World) {G:Nat→Prop} (hf:Fr No W0 V) (a2:RAt w2 G p {r with js:=⟨r.js.term+1,r.id,r.js.log⟩} (n+48)) (f2:Fr F V w2) (i2:∀i,G i→F i∨V.heap.size≤i) (hW:W4=((w2.setCell ⟨p,3,none⟩ (.int .i64 2)).setCell ⟨p,5,none⟩ (.int .i64 ((2 ^ r.id:Nat):Int))).drew)=>(RTo.after (hf0.ah hf) (RTo.then f2 i2 (let ⟨j,Fj,bits,nx,mt,h1,h2,h3,h4,h5,h6,h7,h8⟩:=a2;RAt.cells (r:={r with js:=⟨r.js.term+1,r.id,r.js.log⟩}) (r' :={r with js:=⟨r.js.term+1,r.id,r.js.log⟩,role:=2,gW:=2 ^ r.id}) h2 h3 h4 h5 h6 (bits' :=((2 ^ r.id:Nat):Int)) (nx' :=nx) (mt' :=mt) (by rw [hW];exact (((Fr.refl (fun i=>i=p) w2).setCell (p:=⟨p,3,none⟩) (.inl rfl) _).setCell (p:=⟨p,5,none⟩) (.inl rfl) _).drew) (by rw [hW];exact (((h1.aC 3 _).aC 5 _).conv rfl).dM) rfl ⟨fun _=>rfl,fun hh=>by simp at hh⟩ hok1)):RTo w F p {r with js:=⟨r.js.term+1,r.id,r.js.log⟩,role:=2,gW:=2 ^ r.id} (n+48) W4);obtain ⟨axj,qH,HP,HW0,HBB,HB,HV,HP1,HP2,adr⟩:=yU aqj nk hP hW0 hbb hB hv hp1 hp2 hall;clear aqj nk hP hW0 hbb hB hv hp1 hp2 hall
  go_in
  go_wp2_with fail
  rw [←HBB.out,←HW0.out];refine (qH.out _ (Fr.refl _ _)).mono ?_;rintro e w1 ⟨rfl,rfl⟩
  go_wp2_with fail
  go_region_held3 (fun V=>V.cell? ⟨p,1,none⟩=some (.int .i64 (r.id:Int))∧V.cell? ⟨b,0,none⟩=some (.pointer (some ⟨p,0,none⟩))) (first|exact ⟨k1,k0⟩|exact HP.out _ frz) (first
   |(go_at_call 200;refine (qH.out _ frz).mono ?_;rintro e w1 ⟨rfl,rfl⟩)
   |(go_at_call 248;refine (axj.out _ frz).mono ?_;rintro e w2 ⟨rfl,G,a2,i2,f2⟩;have kb:=HB.out _ _ frz f2;have k0:w2.cell? ⟨b,0,none⟩=some (.pointer (some ⟨p,0,none⟩)):=kb.cell 0;have KB:=O kb;clear kb;have A2:=O a2;obtain ⟨j,Fj,bits,nx,mt,h1,-⟩:=a2;have k1:w2.cell? ⟨p,1,none⟩=some (.int .i64 (r.id:Int)):=h1.cell 1;have k3:w2.cell? ⟨p,3,none⟩=some (.int .i64 r.role):=h1.cell 3;have k5:w2.cell? ⟨p,5,none⟩=some (.int .i64 bits):=h1.cell 5;have kf3:=h1.frozen 3;have kf5:=h1.frozen 5;have H1:=O h1;clear h1;have I2:=O i2;have F2:=O f2;clear i2 f2))
  have ays:(r.id:Int)<5:=by omega
  go_wp2_with fail
  go_region_held3 (fun V=>V.cell? ⟨p,1,none⟩=some (.int .i64 (r.id:Int))∧V.cell? ⟨b,0,none⟩=some (.pointer (some ⟨p,0,none⟩))) (first|exact ⟨k1,k0⟩|exact ⟨((H1.out.aC 3 _).dM).cell 1,((KB.out.aG hbp _).dM).cell 0⟩|exact ⟨(H1.out.aC 3 _).cell 1,(KB.out.aG hbp _).cell 0⟩|exact ⟨((H1.out.aC 5 _).dM).cell 1,((KB.out.aG hbp _).dM).cell 0⟩|exact ⟨(H1.out.aC 5 _).cell 1,(KB.out.aG hbp _).cell 0⟩|exact ⟨(((H1.out.aC 3 _).aC 5 _).dM).cell 1,(((KB.out.aG hbp _).aG hbp _).dM).cell 0⟩|exact ⟨(((H1.out.aC 5 _).aC 3 _).dM).cell 1,(((KB.out.aG hbp _).aG hbp _).dM).cell 0⟩) (fail)
  all_goals
   rw [HV.out];obtain ⟨W4,hW4⟩:∃W4,W4=((w2.setCell ⟨p,3,none⟩ (.int .i64 2)).setCell ⟨p,5,none⟩ (.int .i64 ((2 ^ r.id:Nat):Int))).drew:=⟨_,rfl⟩;rw [←hW4];have hb4:Blk W4 b 260 #[.pointer (some ⟨p,0,none⟩)]:=by rw [hW4];exact ((KB.out.aG hbp _).aG hbp _).dM
   have hr4:=adr.out _ w2 W4 frz A2.out F2.out I2.out hW4;obtain ⟨G4,a4,i4,f4⟩:=hr4;have cb4:W4.cell? ⟨b,0,none⟩=some (.pointer (some ⟨p,0,none⟩)):=hb4.cell 0;have c2:W4.cell? ⟨p,2,none⟩=some (.int .i64 (r.n:Int)):=(let ⟨_,_,_,_,_,h1,_⟩:=a4;h1.cell 2);obtain ⟨I4,F4⟩:=aN i4 f4;clear hW4 hb4 i4 f4 k0 k1 k3 k5 kf3 kf5
   by_cases hn1:r.n=1
   ·have u1:((r.n:Int) == 1)=true:=by simp;omega
    have hpl:=HP1.out hn1;have hlead:=alx a4;clear hn1 a4;obtain ⟨ar3,HPL⟩:=aN hlead hpl;clear hlead hpl
    go_wp2_with fail
    refine ar3.out.mono ?_;rintro e w5 ⟨rfl,t5⟩;have T5:=O (jE.mk' (RTo.then F4.out I4.out t5) (zD.none_ w5));clear t5
    go_wp2_with fail
    go_ret
    rw [HPL.out];exact T5.out
   ·have u1:((r.n:Int) == 1)=false:=by simp;omega
    have hpl:=HP2.out hn1;have hoth:=uz a4 b cb4;have hrt:RTo w F p {r with js:=⟨r.js.term+1,r.id,r.js.log⟩,role:=2,gW:=2 ^ r.id} (n+48) W4:=⟨G4,a4,I4.out,F4.out⟩;clear hn1 a4;generalize (others r.id r.n).map ({r with js:=⟨r.js.term+1,r.id,r.js.log⟩,role:=2,gW:=2 ^ r.id}:Rs).fZ=ms at hoth hpl;obtain ⟨axm,HPL,HRT⟩:=bC hoth hpl hrt;clear hoth hpl hrt
    go_wp2_with fail
    refine axm.out.mono ?_;rintro e w5 m5;have T5:=O (jE.mk' HRT.out m5);obtain ⟨A5,c5,rfl,-,-⟩:=m5
    go_wp2_with fail
    go_ret
    rw [HPL.out];exact T5.out
end
end
section
def iO (w:World)(F:Nat→Prop)(p:Nat)(x:Rs×List Ms)(X:Int)(n:Nat)(e:Ending)(w' :World):Prop:=
 ∃A c F' G,e= .returned (.tuple #[.slice A x.2.length c,.int .i64 X])∧kC w' G (.slice A x.2.length c) x.2∧RAt w' F' p x.1 n∧(∀i,F' i→F i∨w.heap.size≤i)∧(∀i,G i→w.heap.size≤i)∧(∀i,F' i→¬G i)∧Fr F w w'
theorem iO.mk' {w w1 w' :World}{F:Nat→Prop}{p n:Nat}{r:Rs}{ms:List Ms}{X:Int}{A:Option Addr}{c:Nat}(h:RTo w F p r n w1)(k:zD w1 ms (.returned (.slice A ms.length c)) w'):iO w F p (r,ms) X n (.returned (.tuple #[.slice A ms.length c,.int .i64 X])) w' :=by
 obtain ⟨A',c',F',G,e,h1,h2,h3,h4,h5,h6⟩:=jE.mk' h k;injection e with e;injection e with e1 e2 e3;subst e1 e3;exact ⟨A,c,F',G,rfl,h1,h2,h3,h4,h5,h6⟩
theorem uS {y:Bool}{w:World}{F:Nat→Prop}{j:Nat}{s:Js}{n:Nat}(h:JG y w F j s n)(t:Int)(e:En)(he:e.ok)(hsz:n+200≤140737488355328)(h0:kX s t e≠0):
  Calls Tryz.prog 255 #[.pointer (some ⟨j,0,none⟩),.int .i64 t,e.v] w fun r w' =>r= .returned (.int .i64 (kX s t e))∧nL y w F j s n w' :=by
 obtain ⟨d,xs,k,rs,h1,h2,h3,h4,h5⟩:=h;refine (wZ h1 h3 t e he oy).mono ?_;rintro r w' ⟨rfl,j2⟩;refine ⟨rfl,?_⟩;rw [if_neg h0,jM h0] at j2;exact nL.of j2 h2 h3 h4 h5
theorem als {r:Rs}(h:gJ r)(e:En)(he:e.ok):gJ {r with js:=jN r.js r.js.term e}:=by
 have hl:=h.log.add r.js.term e he;obtain ⟨t1,t2⟩:=ada r.js r.js.term e;have hlen:r.js.log.length≤(jN r.js r.js.term e).log.length:=by
  by_cases h0:kX r.js r.js.term e=0
  ·rw [lU h0];simp
  ·rw [jM h0];exact Nat.le_refl _
 refine ⟨hl,?_,?_,?_,?_,h.idn,h.five,h.role,Nat.le_trans h.com hlen,h.vts,fun hh i=>Nat.le_trans (h.nxt hh i) hlen,fun hh i=>Nat.le_trans (h.mts hh i) hlen⟩
 ·simp only;rw [t1];exact h.lo
 ·simp only;rw [t1];exact h.hi
 ·simp only;rw [t2];exact h.vlo
 ·simp only;rw [t2];exact h.vhi
section
variable {w w' :World}{F:Nat→Prop}{p:Nat}{r:Rs}{s:Js}{n:Nat}
theorem aax (h:RAt w F p r n)(e:En)(he:e.ok)(hsz:n+200≤140737488355328):Calls Tryz.prog 204 #[.pointer (some ⟨p,0,none⟩),e.v] w (iO w F p (r.propose e) (r.kJ e) (n+128)):=by
 have hok:=h.ok;have hok2:=hok.propose e he;have hle:=h.more (m:=n+128) oy;obtain ⟨j,Fj,bits,nx,mt,h1,h2,h3,h4,h5,h6,h7,h8⟩:=h;have hT:=fun W (hf:Fr No w W)=>rW (p:=p) (s:=r.js) (n:=n) ⟨j,Fj,(h1.fr hf id).cell 0,h3.au hf,h5⟩;have c3:w.cell? ⟨p,3,none⟩=some (.int .i64 r.role):=h1.cell 3;have hpl:=h1.lt;have hP:∀W,Fr No w W→W.cell? ⟨p,0,none⟩=some (.pointer (some ⟨j,0,none⟩))∧W.cell? ⟨p,3,none⟩=some (.int .i64 r.role):=fun W hW=>⟨(h1.fr hW id).cell 0,(h1.fr hW id).cell 3⟩;have hstill:=fun W (hf:Fr No w W)=>hle.still hf
 by_cases hr:r.role=3
 ·have t1:(r.role == 3)=true:=by simpa using hr
  have t2:(r.role != 3)=false:=by simpa using hr
  have hX:r.kJ e=kX r.js r.js.term e:=by unfold Rs.kJ;rw [if_neg (by simpa using hr)]
  have hfj:=fun i (hi:Fj i)=>h6 i (h4 i hi);have ao0:=fun V W (hf:Fr No w V) (hj:Fr Fj V W)=>((((h1.fr hf id).fr hj h5).cell 0):W.cell? ⟨p,0,none⟩=some (.pointer (some ⟨j,0,none⟩)))
  by_cases h0:kX r.js r.js.term e=0
  ·have hpr:r.propose e=(r.proposed e,(r.proposed e).nO):=by unfold Rs.propose;rw [hX,if_pos h0]
   have hA:=fun W (hf:Fr No w W)=>afs (h3.au hf) r.js.term e he hsz;have hjr:=fun V W (hf:Fr No w V) (hj:nL true V Fj j (jN r.js r.js.term e) (n+128) W)=>(RTo.after hf (RAt.jrn (r:=r) (s' :=jN r.js r.js.term e) (h1.fr hf id) h2 h4 h5 (fun i hi=>nll (h6 i hi) hf.size) h7 hj (als h8 e he)):RTo w F p {r with js:=jN r.js r.js.term e} (n+128) W);have hfin:∀V W,Fr No w V→nL false V Fj j (jN r.js r.js.term e) (n+128) W→∃G,JG false W G j (jN r.js r.js.term e) (n+128)∧∀W',nL true W G j (jN r.js r.js.term e) (n+128) W'→RTo w F p {r with js:=jN r.js r.js.term e} (n+128) W' :=fun V W hf hj=>(let ⟨G,q1,q2,q3⟩:=hj;⟨G,q1,fun W' k=>hjr V W' hf (nL.then q3 q2 k)⟩);have hr2:({r with js:=jN r.js r.js.term e}:Rs).role=3:=hr;rw [hpr,hX];rw [h0] at hA ⊢;unfold Rs.proposed;generalize hr1:({r with js:=jN r.js r.js.term e}:Rs)=r1 at*;generalize jN r.js r.js.term e=S at*;generalize r.js.term=t at*;obtain ⟨k0,tick,te,ce,ot,ep,fr,un,nn⟩:=e;unfold En.v at*;simp only at*;obtain ⟨W0,hW0⟩:∃W0,W0=w.alloc (.cells #[.int .i64 k0,.int .i64 tick,.int .i64 te,.int .i64 ce,.int .i64 ot,.int .i64 ep,.int .i64 fr,.int .i64 un,.int .i64 nn] qE):=⟨_,rfl⟩;have hf0:Fr No w W0:=by rw [hW0];exact aj _ _
   obtain ⟨g,hg⟩:∃g,g=w.heap.size:=⟨_,rfl⟩;have hb:Blk W0 g qE #[.int .i64 k0,.int .i64 tick,.int .i64 te,.int .i64 ce,.int .i64 ot,.int .i64 ep,.int .i64 fr,.int .i64 un,.int .i64 nn]:=by rw [hW0,hg];exact Blk.new _ _ _
   have hgj:¬Fj g:=fun hh=>by have:=hfj g hh;omega
   have hB2:=fun V W (hf:Fr No W0 V) (hj:Fr Fj V W)=>(hb.fr hf id).fr hj hgj;have hE0:=fun V (hf:Fr No W0 V)=>And.intro (hP _ (hf0.ah hf)).1 (aU (hb.fr hf id));obtain ⟨p0,p3⟩:=hP _ hf0;clear h8 hjr h1 h2 h3 h4 h5 h6 h7 hok hok2 hle hpr hX hr h0 hb hfj hgj hstill hr1;obtain ⟨HT,HP,HA,eu,ar9,HE0,HB2,HW0,HG,HF0⟩:=yU hT hP hA hfin ao0 hE0 hB2 hW0 hg hf0;clear hT hP hA hfin ao0 hE0 hB2 hW0 hg hf0
   go_in
   go_wp2_with fail
   rw [←HG.out,←HW0.out]
   go_wp2_with fail
   go_region_held3 (fun V=>V.cell? ⟨p,0,none⟩=some (.pointer (some ⟨j,0,none⟩))∧V.cell? ⟨g,0,none⟩=some (.int .i64 k0)∧V.cell? ⟨g,1,none⟩=some (.int .i64 tick)∧V.cell? ⟨g,2,none⟩=some (.int .i64 te)∧V.cell? ⟨g,3,none⟩=some (.int .i64 ce)∧V.cell? ⟨g,4,none⟩=some (.int .i64 ot)∧V.cell? ⟨g,5,none⟩=some (.int .i64 ep)∧V.cell? ⟨g,6,none⟩=some (.int .i64 fr)∧V.cell? ⟨g,7,none⟩=some (.int .i64 un)∧V.cell? ⟨g,8,none⟩=some (.int .i64 nn)) (first|exact ⟨p0,e0,e1,e2,e3,e4,e5,e6,e7,e8⟩|exact HE0.out _ frz) (first
    |(go_at_call 200;refine (HT.out _ (HF0.out.ah frz)).mono ?_;rintro e w1 ⟨rfl,rfl⟩)
    |(go_at_call 255;refine (HA.out _ (HF0.out.ah frz)).mono ?_;rintro e w2 ⟨rfl,j2⟩;obtain ⟨e0,e1,e2,e3,e4,e5,e6,e7,e8⟩:=aU (HB2.out _ _ frz (let ⟨_,_,_,g⟩:=j2;g));have p0:=ar9.out _ _ (HF0.out.ah frz) (let ⟨_,_,_,g⟩:=j2;g);have J2:=O (eu.out _ _ (HF0.out.ah frz) j2);clear j2))
   obtain ⟨G2,a2,k2⟩:=J2.out;clear J2 e0 e1 e2 e3 e4 e5 e6 e7 e8;obtain ⟨A2,K2⟩:=aN a2 k2;clear a2 k2
   go_wp2_with fail
   refine (ahi A2.out).mono ?_;rintro e w3 ⟨rfl,j3⟩;obtain ⟨G3,a3,i3,f3⟩:=K2.out _ j3;clear j3;obtain ⟨A3,I3,F3⟩:=bC a3 i3 f3;clear a3 i3 f3
   go_wp2_with fail
   refine (aaz A3.out hr2).mono ?_;rintro e w4 ⟨rfl,t4⟩;obtain ⟨G4,a4,i4,f4⟩:=RTo.then F3.out I3.out t4;have ho:=rX a4 (show r1.advance.role=3 from hr2);have hrt:RTo w F p r1.advance (n+128) w4:=⟨G4,a4,i4,f4⟩
   change Calls _ _ _ _ (zD w4 r1.advance.nO) at ho
   generalize r1.advance.nO=ms at*;clear t4 a4 i4 f4;obtain ⟨HO,HRT⟩:=aN ho hrt;clear ho hrt
   go_wp2_with fail
   refine HO.out.mono ?_;rintro e w5 m5;have M:=O m5;obtain ⟨A5,c5,rfl,-,-⟩:=m5
   go_wp2_with fail
   go_ret2
   exact iO.mk' HRT.out M.out
  ·have hpr:r.propose e=(r,[]):=by unfold Rs.propose;rw [hX,if_neg h0]
   have hA:=fun W (hf:Fr No w W)=>uS (h3.au hf) r.js.term e he hsz h0;have hfin:=fun V W (hf:Fr No w V) (hj:nL true V Fj j r.js n W)=>(RTo.more (RTo.after hf (RAt.jrn (r:=r) (s' :=r.js) (h1.fr hf id) h2 h4 h5 (fun i hi=>nll (h6 i hi) hf.size) h7 hj hok)) oy:RTo w F p r (n+128) W);rw [hpr,hX];generalize kX r.js r.js.term e=X at*;generalize r.js.term=t at*;obtain ⟨k0,tick,te,ce,ot,ep,fr,un,nn⟩:=e;unfold En.v at*;simp only at*;obtain ⟨W0,hW0⟩:∃W0,W0=w.alloc (.cells #[.int .i64 k0,.int .i64 tick,.int .i64 te,.int .i64 ce,.int .i64 ot,.int .i64 ep,.int .i64 fr,.int .i64 un,.int .i64 nn] qE):=⟨_,rfl⟩;have hf0:Fr No w W0:=by rw [hW0];exact aj _ _
   obtain ⟨g,hg⟩:∃g,g=w.heap.size:=⟨_,rfl⟩;have hb:Blk W0 g qE #[.int .i64 k0,.int .i64 tick,.int .i64 te,.int .i64 ce,.int .i64 ot,.int .i64 ep,.int .i64 fr,.int .i64 un,.int .i64 nn]:=by rw [hW0,hg];exact Blk.new _ _ _
   have hgj:¬Fj g:=fun hh=>by have:=hfj g hh;omega
   have hB2:=fun V W (hf:Fr No W0 V) (hj:Fr Fj V W)=>(hb.fr hf id).fr hj hgj;have hE0:=fun V (hf:Fr No W0 V)=>And.intro (hP _ (hf0.ah hf)).1 (aU (hb.fr hf id));obtain ⟨p0,p3⟩:=hP _ hf0;have x1:(X == 0)=false:=by simpa using h0
   have x2:(X != 0)=true:=by simpa using h0
   clear h8 h1 h2 h3 h4 h5 h6 h7 hok hok2 hle hpr hX hr h0 hb hfj hgj hstill;obtain ⟨HT,HP,HA,eu,ar9,HE0,HB2,HW0,HG,HF0⟩:=yU hT hP hA hfin ao0 hE0 hB2 hW0 hg hf0;clear hT hP hA hfin ao0 hE0 hB2 hW0 hg hf0
   go_in
   go_wp2_with fail
   rw [←HG.out,←HW0.out]
   go_wp2_with fail
   go_region_held3 (fun V=>V.cell? ⟨p,0,none⟩=some (.pointer (some ⟨j,0,none⟩))∧V.cell? ⟨g,0,none⟩=some (.int .i64 k0)∧V.cell? ⟨g,1,none⟩=some (.int .i64 tick)∧V.cell? ⟨g,2,none⟩=some (.int .i64 te)∧V.cell? ⟨g,3,none⟩=some (.int .i64 ce)∧V.cell? ⟨g,4,none⟩=some (.int .i64 ot)∧V.cell? ⟨g,5,none⟩=some (.int .i64 ep)∧V.cell? ⟨g,6,none⟩=some (.int .i64 fr)∧V.cell? ⟨g,7,none⟩=some (.int .i64 un)∧V.cell? ⟨g,8,none⟩=some (.int .i64 nn)) (first|exact ⟨p0,e0,e1,e2,e3,e4,e5,e6,e7,e8⟩|exact HE0.out _ frz) (first
    |(go_at_call 200;refine (HT.out _ (HF0.out.ah frz)).mono ?_;rintro e w1 ⟨rfl,rfl⟩)
    |(go_at_call 255;refine (HA.out _ (HF0.out.ah frz)).mono ?_;rintro e w2 ⟨rfl,j2⟩;obtain ⟨e0,e1,e2,e3,e4,e5,e6,e7,e8⟩:=aU (HB2.out _ _ frz (let ⟨_,_,_,g⟩:=j2;g));have p0:=ar9.out _ _ (HF0.out.ah frz) (let ⟨_,_,_,g⟩:=j2;g);have J2:=O (eu.out _ _ (HF0.out.ah frz) j2);clear j2))
   clear e0 e1 e2 e3 e4 e5 e6 e7 e8
   go_wp2_with fail
   go_ret2
   exact iO.mk' J2.out (zD.none_ _)
 ·have t1:(r.role == 3)=false:=by simpa using hr
  have t2:(r.role != 3)=true:=by simpa using hr
  have hX:r.kJ e=4:=by unfold Rs.kJ;rw [if_pos hr]
  have hpr:r.propose e=(r,[]):=by unfold Rs.propose;rw [hX,if_neg dcd]
  rw [hpr,hX];obtain ⟨k0,tick,te,ce,ot,ep,fr,un,nn⟩:=e;unfold En.v at*;simp only at*;obtain ⟨p0,p3⟩:=hP _ (aj w (.cells #[.int .i64 k0,.int .i64 tick,.int .i64 te,.int .i64 ce,.int .i64 ot,.int .i64 ep,.int .i64 fr,.int .i64 un,.int .i64 nn] qE));have S:=O (hstill _ (aj w (.cells #[.int .i64 k0,.int .i64 tick,.int .i64 te,.int .i64 ce,.int .i64 ot,.int .i64 ep,.int .i64 fr,.int .i64 un,.int .i64 nn] qE)));clear h8 hT hP hstill h1 h2 h3 h4 h5 h6 h7 hok hok2 hle hpr hX hr
  go_in
  go_wp2_with fail
  go_ret2
  exact iO.mk' S.out (zD.none_ _)
end
end
section
theorem Ent.at_ {w:World}{G:Nat→Prop}{A:Option Addr}{n c i:Nat}{es:List Lg}(h:Ent w G (.slice A n c) es)(hi:i<es.length):
  ∃b off x,A=some ⟨b,off,none⟩∧es[i]? =some x∧∀W,Fr No w W→(W.cell? ⟨b,off+i*10,none⟩=some (.int .i64 x.term)∧W.cell? ⟨b,off+i*10+1,none⟩=some (.int .i64 x.e.kind)∧W.cell? ⟨b,off+i*10+2,none⟩=some (.int .i64 x.e.tick)∧W.cell? ⟨b,off+i*10+3,none⟩=some (.int .i64 x.e.bF)∧W.cell? ⟨b,off+i*10+4,none⟩=some (.int .i64 x.e.cell)∧W.cell? ⟨b,off+i*10+5,none⟩=some (.int .i64 x.e.other)∧W.cell? ⟨b,off+i*10+6,none⟩=some (.int .i64 x.e.epoch)∧W.cell? ⟨b,off+i*10+7,none⟩=some (.int .i64 x.e.from_)∧W.cell? ⟨b,off+i*10+8,none⟩=some (.int .i64 x.e.fE)∧W.cell? ⟨b,off+i*10+9,none⟩=some (.int .i64 x.e.n)):=by
 obtain ⟨A',c',h1,h2,h3,h4,h5⟩:=h;injection h1 with e1 e2 e3;subst e1
 rcases h5 with rfl|⟨b,off,rfl,hb,hlt,hc⟩
 ·simp at hi
 obtain ⟨x,hx⟩:∃x,es[i]? =some x:=⟨_,List.getElem?_eq_getElem hi⟩;refine ⟨b,off,x,rfl,hx,fun W hW=> ?_⟩;have hl:=eF es;have e:=fun j (hj:j<10)=>((hW.cell (p:=⟨b,off+(i*10+j),none⟩) hlt id).trans (by rw [hc (i*10+j) oy,←List.getElem?_eq_getElem,eG es i j x hx hj]):W.cell? ⟨b,off+(i*10+j),none⟩=x.cells[j]?);exact ⟨e 0 oy,e 1 oy,e 2 oy,e 3 oy,e 4 oy,e 5 oy,e 6 oy,e 7 oy,e 8 oy,e 9 oy⟩
section
variable {w w' :World}{F G:Nat→Prop}{p:Nat}{r:Rs}{s:Js}{n:Nat}
end
end
section
structure Gh where
 el:Int→Option Nat
 gl:Int→List Lg
 acc:Nat→Int→Nat
 vt:Nat→Int→Option Nat
 vl:Nat→Int→List Lg
section
variable {n:Nat}{rs:Nat→Rs}{g g' :Gh}
def upd (rs:Nat→Rs)(q:Nat)(r:Rs):Nat→Rs:=fun i=>if i=q then r else rs i
theorem pQ (rs:Nat→Rs)(q:Nat)(r:Rs):upd rs q r q=r:=if_pos rfl
theorem upd_ne {rs:Nat→Rs}{q i:Nat}{r:Rs}(h:i≠q):upd rs q r i=rs i:=if_neg h
end
end
end Go.Proofs.YtodkhcbjpodgeaaGreat
