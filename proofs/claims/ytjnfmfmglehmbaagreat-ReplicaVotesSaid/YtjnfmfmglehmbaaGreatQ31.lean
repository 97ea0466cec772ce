/-
  The reference's replica: proposals and beats.
-/
import Derived.Test.YtjnfmfmglehmbaaGreatQ30
namespace Go.Proofs.YtjnfmfmglehmbaaGreat
open Go.ChangeShapes Go.WideShapes Go.ChangeAt Go.RowKit
set_option linter.unusedVariables false
set_option maxRecDepth 100000
set_option maxHeartbeats 4000000
def iD (w:World)(F:Nat→Prop)(p:Nat)(x:Rs×List Ms)(X:Int)(n:Nat)(e:Ending)(w' :World):Prop:=
 ∃A c F' G,e= .returned (.tuple #[.slice A x.2.length c,.int .i64 X])∧bF w' G (.slice A x.2.length c) x.2∧bR w' F' p x.1 n∧(∀i,F' i→F i∨w.heap.size≤i)∧(∀i,G i→w.heap.size≤i)∧(∀i,F' i→¬G i)∧Fr F w w'
theorem iD.mk' {w w1 w' :World}{F:Nat→Prop}{p n:Nat}{r:Rs}{ms:List Ms}{X:Int}{A:Option Addr}{c:Nat}(h:bY w F p r n w1)(k:fF w1 ms (.returned (.slice A ms.length c)) w'):iD w F p (r,ms) X n (.returned (.tuple #[.slice A ms.length c,.int .i64 X])) w' :=by
 obtain ⟨A',c',F',G,e,h1,h2,h3,h4,h5,h6⟩:=aH.mk' h k;injection e with e;injection e with e1 e2 e3;subst e1 e3;exact ⟨A,c,F',G,rfl,h1,h2,h3,h4,h5,h6⟩
theorem dU.after {y:Bool}{w w1 w' :World}{F:Nat→Prop}{j n:Nat}{s:Js}(hf:Fr No w w1)(h:dU y w1 F j s n w'):dU y w F j s n w' :=by
 obtain ⟨F',h1,h2,h3⟩:=h;exact ⟨F',h1,fun i hi=>(h2 i hi).imp id (Nat.le_trans hf.size),(hf.mono (G:=F) fun _ hi=>hi.elim).trans h3 fun i hi=> .inl hi⟩
theorem dU.more {y:Bool}{w w' :World}{F:Nat→Prop}{j n m:Nat}{s:Js}(h:dU y w F j s n w')(hn:n≤m):dU y w F j s m w' :=by
 obtain ⟨F',h1,h2,h3⟩:=h;exact ⟨F',h1.more hn,h2,h3⟩
theorem dU.weak {y:Bool}{w w' :World}{F:Nat→Prop}{j n:Nat}{s:Js}(h:dU y w F j s n w'):dU false w F j s n w' :=by
 obtain ⟨F',h1,h2,h3⟩:=h;exact ⟨F',h1.weak,h2,h3⟩
theorem vI {y:Bool}{w:World}{F:Nat→Prop}{j:Nat}{s:Js}{n:Nat}(h:RG y w F j s n)(t:Int)(e:En)(he:e.ok)(hsz:n+200≤140737488355328)(h0:iB s t e≠0):
  Calls Tryz.prog 94 #[.pointer (some ⟨j,0,none⟩),.int .i64 t,e.v] w fun r w' =>r= .returned (.int .i64 (iB s t e))∧dU y w F j s n w' :=by
 obtain ⟨d,xs,k,rs,h1,h2,h3,h4,h5⟩:=h;refine (vH h1 h3 t e he oy).mono ?_;rintro r w' ⟨rfl,j2⟩;refine ⟨rfl,?_⟩;rw [if_neg h0,gJ h0] at j2;exact dU.of j2 h2 h3 h4 h5
section
variable {w w' w1:World}{F G Fj F' :Nat→Prop}{p:Nat}{r r' :Rs}{n m:Nat}{V X M V' X' M' :Value}{bs xs ms bs' xs' ms' :List Value}
set_option maxHeartbeats 1000000 in
theorem ab5 (h:bR w F p r n):Calls Tryz.prog 45 #[.pointer (some ⟨p,0,none⟩)] w (aH w F p (r,r.nD) n):=by
 obtain ⟨j,A,c,V,X,M,hpl,hc1,hc2,iQ⟩:=h.sees;obtain ⟨⟨-,-,-,p3,-⟩,-⟩:=iQ w (Fr.refl _ _);clear iQ
 by_cases hr:r.role=3
 ·have u1:(r.role != 3)=false:=by simpa using hr
  have hb:r.nD=r.gF:=by unfold Rs.nD;rw [if_neg (by simpa using hr)]
  have hta:=uf h hr;have hfin:=fun e w' (k:fF w r.gF e w')=>aH.mk' h.self k;rw [hb];generalize r.gF=ta at*;clear hr hb h;obtain ⟨HTA,bS⟩:=aO hta hfin;clear hta hfin
  go_in
  go_wp2_with fail
  refine HTA.out.mono ?_;rintro e w1 m1;have T:=O (bS.out _ _ m1);obtain ⟨A5,c5,rfl,-,-⟩:=m1
  go_wp2_with fail
  go_ret
  exact T.out
 ·have u1:(r.role != 3)=true:=by simpa using hr
  have hb:r.nD=[]:=by unfold Rs.nD;rw [if_pos (by simpa using hr)]
  rw [hb];have hfin:=aH.mk' h.self (fF.none_ w);clear hr hb h;have bS:=O hfin;clear hfin
  go_in
  go_wp2_with fail
  go_ret
  exact bS.out
theorem sG (h:bR w F p r n)(e:En)(he:e.ok)(hsz:n+200≤140737488355328):Calls Tryz.prog 43 #[.pointer (some ⟨p,0,none⟩),e.v] w (iD w F p (r.propose e) (r.fH e) (n+128)):=by
 have hok:=h.ok;have hle:=h.more (m:=n+128) oy;obtain ⟨W0,hW0⟩:∃W0,W0=w.alloc (.cells #[.int .i64 e.kind,.int .i64 e.tick,.int .i64 e.aS,.int .i64 e.cell,.int .i64 e.other,.int .i64 e.epoch,.int .i64 e.from_,.int .i64 e.bA,.int .i64 e.n] dR):=⟨_,rfl⟩;obtain ⟨g,hg⟩:∃g,g=w.heap.size:=⟨_,rfl⟩;have hf0:Fr No w W0:=by rw [hW0];exact aj _ _
 have hbe:Blk W0 g dR #[.int .i64 e.kind,.int .i64 e.tick,.int .i64 e.aS,.int .i64 e.cell,.int .i64 e.other,.int .i64 e.epoch,.int .i64 e.from_,.int .i64 e.bA,.int .i64 e.n]:=by rw [hW0,hg];exact Blk.new _ _ _
 obtain ⟨j0,A,c,V,X,M,hpl,hc1,hc2,iQ⟩:=h.sees;have hcells:=aB hbe
 by_cases hr:r.role=3
 case neg=>
  obtain ⟨⟨-,-,-,p3,-⟩,-⟩:=iQ W0 hf0;have u1:(r.role != 3)=true:=by simpa using hr
  have hX:r.fH e=4:=by unfold Rs.fH;rw [if_pos (by simpa using hr)]
  have hb:r.propose e=(r,[]):=by unfold Rs.propose;rw [hX,if_neg dcd]
  rw [hb,hX];have hfin:=iD.mk' (X:=4) (hle.still hf0) (fF.none_ W0);obtain ⟨kd,tick,te,ce,ot,ep,fr,un,nn⟩:=e;unfold En.v;simp only at*;clear hr hb h hle hbe iQ hcells;obtain ⟨bS,HW0,HG,HF0⟩:=fK hfin hW0 hg hf0;clear hfin hW0 hg hf0
  go_in
  go_upto_region 1 with fail
  rw [←HW0.out]
  go_wp2_with fail
  go_ret2
  exact bS.out
 have u1:(r.role != 3)=false:=by simpa using hr
 have hX:r.fH e=iB r.js r.js.term e:=by unfold Rs.fH;rw [if_neg (by simpa using hr)]
 have h0:=h.ak hf0;have hle0:=hle.ak hf0;obtain ⟨⟨-,-,-,p3,-⟩,-⟩:=iQ W0 hf0;obtain ⟨j,Fj,V',X',M',bs,xs,ms,h1,h2,h3,h4,h5,h6,h7,h8⟩:=h0;obtain ⟨d',A',c',g1,g2,g3⟩:=h3.open_;have p0:W0.cell? ⟨p,0,none⟩=some (.pointer (some ⟨j,0,none⟩)):=h1.cell 0;have j1:W0.cell? ⟨j,1,none⟩=some (.int .i64 r.js.term):=g1.cell 1;have ari:=h1.lt;clear hc1 hc2 iQ g1 g2 g3
 by_cases h0:iB r.js r.js.term e=0
 case neg=>
  have hb:r.propose e=(r,[]):=by unfold Rs.propose;rw [hX,if_neg h0]
  rw [hb,hX];have happ:=fun W (hf:Fr No W0 W)=>vI (h3.ak hf) r.js.term e he hsz h0;have hfin:=fun W (t:dU true W0 Fj j r.js (n+128) W)=>iD.mk' (A:=none) (c:=0) (X:=iB r.js r.js.term e) (bY.after hf0 (bR.jrn h1 h2 h4 h5 h6 h7 t hok)) (fF.none_ W);have u2:(iB r.js r.js.term e != 0)=true:=by simpa using h0
  generalize iB r.js r.js.term e=XX at*;obtain ⟨kd,tick,te,ce,ot,ep,fr,un,nn⟩:=e;unfold En.v at*;simp only at*;obtain ⟨x0,x1,x2,x3,x4,x5,x6,x7,x8⟩:=hcells;clear hr hb h hle hbe h1 h2 h3 h4 h5 h6 h7 h8 hX hok hle0 he h0;obtain ⟨wQ,bS,HW0,HG,HF0⟩:=jr happ hfin hW0 hg hf0;clear happ hfin hW0 hg hf0
  go_in
  go_upto_region 1 with fail
  rw [←HW0.out,←HG.out]
  go_upto_region 3 with fail
  go_cut [6] (fun x wx=>x= .int .i64 XX∧dU true W0 Fj j r.js (n+128) wx)
  case first=>
   go_wp2_with fail
   go_region_with ((go_at_call 94;refine (wQ.out _ frz).mono ?_;rintro e w1 ⟨rfl,t2⟩;have t2' :=(dU.after (w:=W0) frz t2).more (m:=n+128) oy;clear t2;have T2:=O t2';clear t2'))
   all_goals
    go_wp2_with fail
    go_meet
    exact ⟨rfl,T2.out⟩
  case rest=>
   obtain ⟨rfl,t⟩:=hcut;have T:=O (bS.out _ t);clear t
   go_wp2_with fail
   go_ret2
   exact T.out
 have hb:r.propose e=(r.proposed e,(r.proposed e).gF):=by unfold Rs.propose;rw [hX,if_pos h0]
 rw [hb,hX,h0];have happ:=fun W (hf:Fr No W0 W)=>pY (h3.ak hf) r.js.term e he hsz;rw [h0] at happ;have ap0:=ahb hok e he;have hfin:=fun W (t:dU true W0 Fj j (gT r.js r.js.term e) (n+128) W)=>bY.after hf0 (bR.jrn h1 h2 h4 h5 h6 h7 t ap0);have hkeep:∀W,dU false W0 Fj j (gT r.js r.js.term e) (n+128) W→W.cell? ⟨p,0,none⟩=some (.pointer (some ⟨j,0,none⟩)):=fun W ⟨_,_,_,f⟩=>(f.cell (p:=⟨p,0,none⟩) ari h5).trans p0;have hpd:r.proposed e=({r with js:=gT r.js r.js.term e}:Rs).advance:=rfl;have hr2:({r with js:=gT r.js r.js.term e}:Rs).role=3:=hr;rw [hpd];have hr3:({r with js:=gT r.js r.js.term e}:Rs).advance.role=3:=hr;generalize ({r with js:=gT r.js r.js.term e}:Rs)=r2 at*;generalize gT r.js r.js.term e=S at*;obtain ⟨kd,tick,te,ce,ot,ep,fr,un,nn⟩:=e;unfold En.v at*;simp only at*;obtain ⟨x0,x1,x2,x3,x4,x5,x6,x7,x8⟩:=hcells;clear hr hb h hle hbe h1 h2 h3 h4 h5 h6 h7 h8 hX hok hle0 he h0 ap0 hpd;obtain ⟨wQ,bS,HW0,HG,HF0,yD,HR2,HR3⟩:=ae6 happ hfin hW0 hg hf0 hkeep hr2 hr3;clear happ hfin hW0 hg hf0 hkeep hr2 hr3
 go_in
 go_upto_region 1 with fail
 rw [←HW0.out,←HG.out]
 go_upto_region 3 with fail
 go_cut [6] (fun x wx=>x= .int .i64 0∧dU false W0 Fj j S (n+128) wx)
 case first=>
  go_wp2_with fail
  go_region_with ((go_at_call 94;refine (wQ.out _ frz).mono ?_;rintro e w1 ⟨rfl,t2⟩;have t2' :=dU.after (w:=W0) frz t2;clear t2;have T2:=O t2';clear t2'))
  all_goals
   go_wp2_with fail
   go_meet
   exact ⟨rfl,T2.out⟩
 case rest=>
  obtain ⟨rfl,t⟩:=hcut;have k0:=yD.out _ t;obtain ⟨F1,a1,i1,f1⟩:=t;have hsy:=uh a1;have kg:=fun W (t:dU true wc F1 j S (n+128) W)=>bS.out W (dU.then f1 i1 t);clear a1 i1 f1;obtain ⟨HSY,oQ⟩:=aO hsy kg;clear hsy kg
  go_wp2_with fail
  refine HSY.out.mono ?_;rintro e w2 ⟨rfl,t2⟩;obtain ⟨F3,a3,i3,f3⟩:=oQ.out _ t2;have uS:=sH a3 HR2.out;clear t2 a3 HSY oQ bS wQ yD;obtain ⟨abg,I3,F3⟩:=bP uS i3 f3;clear uS i3 f3
  go_wp2_with fail
  refine abg.out.mono ?_;rintro e w4 ⟨rfl,t4⟩;obtain ⟨F5,a5,i5,f5⟩:=bY.then F3.out I3.out t4;have hta:=uf a5 HR3.out;have mX:=fun A c W (k:fF w4 r2.advance.gF (.returned (.slice A r2.advance.gF.length c)) W)=>iD.mk' (X:=0) (⟨F5,a5,i5,f5⟩:bY w F p r2.advance (n+128) w4) k;clear t4 a5 i5 f5;generalize r2.advance.gF=ta at*;obtain ⟨HTA,yE⟩:=aO hta mX;clear hta mX
  go_wp2_with fail
  refine HTA.out.mono ?_;rintro e w6 m6;obtain ⟨A5,c5,rfl,k5⟩:=id m6;have T:=O (yE.out _ _ _ m6);clear m6 k5
  go_wp2_with fail
  go_ret2
  exact T.out
end
end Go.Proofs.YtjnfmfmglehmbaaGreat
