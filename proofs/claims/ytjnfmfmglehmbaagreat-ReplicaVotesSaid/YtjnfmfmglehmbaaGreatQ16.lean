/-
  The contracts of take and replay of the journal.
-/
import Derived.Test.YtjnfmfmglehmbaaGreatQ15
namespace Go.Proofs.YtjnfmfmglehmbaaGreat
open Go.ChangeShapes Go.WideShapes Go.ChangeAt Go.RowKit
set_option linter.unusedVariables false
set_option maxRecDepth 100000
set_option maxHeartbeats 4000000
theorem uE (A:Option Addr)(n c:Nat)(l:List UInt8)(w:World)(B:Nat)(hl:l.length=n)(hm:n≤maxLen)(hr:Rd w B A (l.map bv))(h:tkJ l=none):
  Calls Tryz.prog 160 #[.slice A n c] w fun e w' =>e= .returned (.tuple #[.int .i64 0,.slice none 0 0,.bool false])∧w=w' :=by
 have hC:=iT A n c l w B hl hm hr;unfold tkJ at h;revert hC h;generalize dw l=t;intro h hC;obtain ⟨tn,tk,te⟩:=t;simp only at h;have h1:te≠0:=by
  intro he;rw [if_pos he] at h
  cases h
 have b1:(te == 0)=false:=by simp [h1]
 have b2:(te != 0)=true:=by simp [h1]
 clear h h1 hl hm hr;have HC:=O hC;clear hC
 go_in
 go_wp2_with fail
 refine HC.out.mono ?_;rintro e w1 ⟨rfl,rfl⟩
 go_wp2_with fail
 go_ret3
 exact ⟨rfl,rfl⟩
set_option maxHeartbeats 1000000 in
theorem qF (A:Option Addr)(n c:Nat)(l:List UInt8)(w:World)(B:Nat)(hA:A=none→n=0)(hl:l.length=n)(hm:n≤maxLen)(hnc:n≤c)(hr:Rd w B A (l.map bv))(x:Int)(q:List UInt8)(h:tkJ l=some (x,q)):
  Calls Tryz.prog 160 #[.slice A n c] w fun e w' =>∃A' c',e= .returned (.tuple #[.int .i64 x,.slice A' q.length c',.bool true])∧(A' =none→q.length=0)∧q.length≤c'∧Rd w' B A' (q.map bv)∧Fr No w w' :=by
 obtain ⟨u0,hu0,gz0,gz1,gz2⟩:=info_parts bD;have hC:=iT A n c l w B hl hm hr;have hk:=oz l;unfold tkJ at h;revert hC h hk;generalize dw l=t;intro h hC hk;obtain ⟨tn,tk,te⟩:=t;simp only at h hk;have h1:te=0:=by
  rcases Decidable.em (te=0) with he|he
  ·exact he
  ·rw [if_neg he] at h
   cases h
 subst h1;simp only [if_true,Option.some.injEq,Prod.mk.injEq] at h;obtain ⟨rfl,rfl⟩:=h;have hk1:=hk rfl;rw [hl] at hk1;obtain ⟨A2,hs2,hn2,hr2⟩:=jw (P:=Tryz.prog) 128 5 Tryz.underlying128 u0 hu0 gz1 A n c tk hk1 hA;have hr3:=hr2 w B (l.map bv) (by rw [List.length_map,hl];exact hnc) hr;rw [←List.map_drop] at hr3;have hql:(l.drop tk).length=n-tk:=by rw [List.length_drop,hl]
 clear hk hr2 hr hl hA;unfold maxLen at hm;obtain ⟨HC,HR3,HQL,HN2⟩:=fK hC hr3 hql hn2;clear hC hr3 hql hn2
 go_in
 go_wp2_with fail
 refine HC.out.mono ?_;rintro e w1 ⟨rfl,rfl⟩
 go_wp2_with fail
 go_region
 all_goals
  go_wp2_with fail
  go_ret3
  refine ⟨A2,c-tk,by rw [HQL.out];rfl,by rw [HQL.out];exact HN2.out,by rw [HQL.out];omega,HR3.out,(Fr.refl _ _).drew⟩
theorem gG {s:Js}{t v:Int}(h:bB s t v≠0):bC s t v=s:=by unfold bC;rw [if_neg h]
theorem gJ {s:Js}{t:Int}{e:En}(h:iB s t e≠0):gT s t e=s:=by unfold gT;rw [if_neg h]
theorem nY {s:Js}{n:Int}(h:jg s n≠0):jP s n=s:=by unfold jP;rw [if_neg h]
def amm (w:World)(F:Nat→Prop)(j d:Nat)(xs:List UInt8)(k:Nat)(s:Js)(R:Option Js)(e:Ending)(w' :World):Prop:=e= .returned (.bool R.isSome)∧JTo w F j d xs k (R.getD s) w'
theorem af7 {w:World}{F:Nat→Prop}{j d:Nat}{xs:List UInt8}{k:Nat}{s:Js}(h:JAt w F j d xs k s)(hlen:s.log.length≤4096)(A:Option Addr)(m c:Nat)(r:List UInt8)(B:Nat)(hA:A=none→m=0)(hl:r.length=m)(hm:m≤maxLen)(hnc:m≤c)(hr:Rd w B A (r.map bv))(hB:B≤w.heap.size):
  Calls Tryz.prog 136 #[.pointer (some ⟨j,0,none⟩),.slice A m c] w (amm w F j d xs k s (bT s r)):=by
 obtain ⟨R,hR⟩:∃R,R=bT s r:=⟨_,rfl⟩;rw [←hR];unfold bT at hR;have hno:=fun W (hf:Fr No w W)=>h.still hf;have hM:=hm;unfold maxLen at hm
 cases ht1:tkJ r with
 |none=>
  rw [ht1] at hR;subst hR;have hT:=uE A m c r w B hl hM hr ht1;clear ht1 hr;obtain ⟨HT,HNO⟩:=aO hT hno;clear hT hno
  go_in
  go_wp2_with fail
  refine HT.out.mono ?_;rintro e w1 ⟨rfl,rfl⟩
  go_wp2_with fail
  go_ret
  exact ⟨au rfl,HNO.out _ (Fr.refl _ _)⟩
 |some kp=>
  obtain ⟨kd,p⟩:=kp;rw [ht1] at hR;have hT:=qF A m c r w B hA hl hM hnc hr kd p ht1;have hpl:p.length≤m:=by
   unfold tkJ at ht1
   split at ht1
   ·simp only [Option.some.injEq,Prod.mk.injEq] at ht1
    rw [←ht1.2,List.length_drop]
    omega
   ·cases ht1
  simp only at hR;clear ht1 hr hA hnc hl
  cases ht2:tkJ p with
  |none=>
   rw [ht2] at hR;subst hR;obtain ⟨HT,HNO⟩:=aO hT hno;clear hT hno
   go_in
   go_wp2_with fail
   refine HT.out.mono ?_;rintro e w1 ⟨A1,c1,rfl,n1,k1,r1,f1⟩;have hT2:=uE A1 p.length c1 p w1 B rfl mxl r1 ht2;clear HT n1 k1 r1;obtain ⟨HT2,F1⟩:=aO hT2 f1;clear hT2 f1
   go_wp2_with fail
   refine HT2.out.mono ?_;rintro e w2 ⟨rfl,rfl⟩
   go_wp2_with fail
   go_ret
   exact ⟨au rfl,HNO.out _ F1.out⟩
  |some nq=>
   obtain ⟨n,q⟩:=nq;rw [ht2] at hR;simp only at hR;have hql:q.length≤p.length:=by
    unfold tkJ at ht2
    split at ht2
    ·simp only [Option.some.injEq,Prod.mk.injEq] at ht2
     rw [←ht2.2,List.length_drop]
     omega
    ·cases ht2
   obtain ⟨HT,HNO,HR⟩:=bP hT hno hR;clear hT hno hR
   go_in
   go_wp2_with fail
   refine HT.out.mono ?_;rintro e w1 ⟨A1,c1,rfl,n1,k1,r1,f1⟩;have hT2:=qF A1 p.length c1 p w1 B n1 rfl mxl k1 r1 n q ht2;clear HT n1 k1 r1 ht2;obtain ⟨HT2,F1⟩:=aO hT2 f1;clear hT2 f1
   go_wp2_with fail
   refine HT2.out.mono ?_;rintro e w2 ⟨A2,c2,rfl,n2,k2,r2,f2⟩;replace F1:=O (F1.out.ah f2);have hR:=HR.out;have hBw:=Nat.le_trans hB F1.out.size;unfold fA at hR;clear HT2 f2 HR;have haft:=fun w3 s' (hj:JTo w2 F j d xs k s' w3)=>JTo.after F1.out hj
   by_cases e1:kd=1
   ·subst e1
    rw [if_pos rfl] at hR
    cases ht3:tkJ q with
    |none=>
     rw [ht3] at hR;subst hR;have hT3:=uE A2 q.length c2 q w2 B rfl mxl r2 ht3;clear n2 k2 r2 haft h;have HT3:=O hT3;clear hT3
     go_wp2_with fail
     refine HT3.out.mono ?_;rintro e w3 ⟨rfl,rfl⟩
     go_wp2_with fail
     go_ret
     exact ⟨au rfl,HNO.out _ F1.out⟩
    |some vq=>
     obtain ⟨v,q2⟩:=vq;rw [ht3] at hR;simp only at hR;have hT3:=qF A2 q.length c2 q w2 B n2 rfl mxl k2 r2 v q2 ht3;clear ht3 n2 k2 r2;have hset:=fun w3 (hf:Fr No w w3)=>vX (h.ak hf) n v;clear h haft
     by_cases e2:q2=[]
     ·subst e2
      simp only [true_and] at hR;have hsn:=fun hx=>gG (s:=s) (t:=n) (v:=v) hx;generalize hXX:bB s n v=X at*;generalize hYY:bC s n v=S at*;clear hXX hYY;obtain ⟨HT3,jQ,HR,HSN⟩:=fK hT3 hset hR hsn;clear hT3 hset hR hsn
      go_wp2_with fail
      refine HT3.out.mono ?_;rintro e w3 ⟨A3,c3,rfl,n3,k3,r3,f3⟩;replace F1:=O (F1.out.ah f3);clear n3 k3 r3 f3 HT3
      go_wp2_with fail
      refine (jQ.out _ F1.out).mono ?_;rintro e w4 ⟨rfl,j4⟩;have J4:=O (JTo.after F1.out j4);clear j4;have hR:=HR.out;clear HR
      by_cases hx:X=0
      ·rw [if_pos hx] at hR
       subst hR hx
       go_wp2_with fail
       go_ret
       exact ⟨au rfl,J4.out⟩
      ·rw [if_neg hx] at hR
       subst hR;have b9:(X == 0)=false:=by simpa using hx
       have HXX:=O hx;clear hx
       go_wp2_with fail
       go_ret
       refine ⟨au rfl,?_⟩;have hx:=HXX.out;have:=J4.out;rw [HSN.out hx] at this;exact this
     ·rw [if_neg (fun hh=>e2 hh.1)] at hR
      subst hR;have hq2:(q2.length == 0)=false:=by simpa using e2
      have hq3:((q2.length:Int) == 0)=false:=by simpa using e2
      clear hset;obtain ⟨HT3,E2⟩:=aO hT3 e2;clear hT3 e2
      go_wp2_with fail
      refine HT3.out.mono ?_;rintro e w3 ⟨A3,c3,rfl,n3,k3,r3,f3⟩;replace F1:=O (F1.out.ah f3);clear n3 k3 r3 f3 HT3
      go_wp2_with fail
      go_ret
      exact ⟨au rfl,HNO.out _ F1.out⟩
   ·have t1:(kd == 1)=false:=by simpa using e1
    rw [if_neg e1] at hR
    by_cases e2:kd=2
    ·subst e2
     rw [if_pos rfl] at hR;have hT3:=afr A2 q.length c2 q w2 B n2 rfl mxl k2 r2 hBw;clear n2 k2 r2 haft e1;have hadd:=fun w3 (hf:Fr No w w3) (en:En)=>alc (h.ak hf) hlen n en;clear h;generalize hTT:jK q=T at*;clear hTT;obtain ⟨en,tk,tx⟩:=T;simp only at hR
     by_cases e3:tx=0
     ·subst e3
      by_cases e4:tk=q.length
      ·subst e4
       simp only [true_and] at hR;have hsn:=fun hx=>gJ (s:=s) (t:=n) (e:=en) hx;replace hadd:=fun w3 (hf:Fr No w w3)=>hadd w3 hf en;generalize hXX:iB s n en=X at*;generalize hYY:gT s n en=S at*;clear hXX hYY;unfold akg at hT3;simp only at hT3;obtain ⟨k0,tick,te,ce,ot,ep,fr,un,n0⟩:=en;unfold En.v at hT3 hadd;obtain ⟨HT3,ag4,HR,HSN⟩:=fK hT3 hadd hR hsn;clear hT3 hadd hR hsn
       go_wp2_with fail
       refine HT3.out.mono ?_;rintro e w3 ⟨rfl,f3⟩;replace F1:=O ((F1.out.ah f3).alloc (.cells #[.int .i64 k0,.int .i64 tick,.int .i64 te,.int .i64 ce,.int .i64 ot,.int .i64 ep,.int .i64 fr,.int .i64 un,.int .i64 n0] dR));clear f3 HT3
       go_wp2_with fail
       refine (ag4.out _ F1.out).mono ?_;rintro e w4 ⟨rfl,j4⟩;have J4:=O (JTo.after F1.out j4);clear j4;have hR:=HR.out;clear HR
       by_cases hx:X=0
       ·rw [if_pos hx] at hR
        subst hR hx
        go_wp2_with fail
        go_ret
        exact ⟨au rfl,J4.out⟩
       ·rw [if_neg hx] at hR
        subst hR;have b9:(X == 0)=false:=by simpa using hx
        have HXX:=O hx;clear hx
        go_wp2_with fail
        go_ret
        refine ⟨au rfl,?_⟩;have hx:=HXX.out;have:=J4.out;rw [HSN.out hx] at this;exact this
      ·rw [if_neg (fun hh=>e4 hh.2.1)] at hR
       subst hR;have t4:((tk:Int) == (q.length:Int))=false:=by simp;omega
       clear hadd;unfold akg at hT3;simp only at hT3;obtain ⟨k0,tick,te,ce,ot,ep,fr,un,n0⟩:=en;unfold En.v at hT3;obtain ⟨HT3,E4⟩:=aO hT3 e4;clear hT3 e4
       go_wp2_with fail
       refine HT3.out.mono ?_;rintro e w3 ⟨rfl,f3⟩;replace F1:=O ((F1.out.ah f3).alloc (.cells #[.int .i64 k0,.int .i64 tick,.int .i64 te,.int .i64 ce,.int .i64 ot,.int .i64 ep,.int .i64 fr,.int .i64 un,.int .i64 n0] dR));clear f3 HT3
       go_wp2_with fail
       go_ret
       exact ⟨au rfl,HNO.out _ F1.out⟩
     ·rw [if_neg (fun hh=>e3 hh.1)] at hR
      subst hR;have t4:(tx == 0)=false:=by simpa using e3
      clear hadd;unfold akg at hT3;simp only at hT3;obtain ⟨k0,tick,te,ce,ot,ep,fr,un,n0⟩:=en;unfold En.v at hT3;obtain ⟨HT3,E3⟩:=aO hT3 e3;clear hT3 e3
      go_wp2_with fail
      refine HT3.out.mono ?_;rintro e w3 ⟨rfl,f3⟩;replace F1:=O ((F1.out.ah f3).alloc (.cells #[.int .i64 k0,.int .i64 tick,.int .i64 te,.int .i64 ce,.int .i64 ot,.int .i64 ep,.int .i64 fr,.int .i64 un,.int .i64 n0] dR));clear f3 HT3
      go_wp2_with fail
      go_ret
      exact ⟨au rfl,HNO.out _ F1.out⟩
    ·have t2:(kd == 2)=false:=by simpa using e2
     rw [if_neg e2] at hR
     by_cases e3:kd=3
     ·subst e3
      rw [if_pos rfl] at hR;clear n2 k2 r2 haft e1 e2;have hcut:=fun w3 (hf:Fr No w w3)=>ala (h.ak hf) n;clear h
      by_cases e4:q=[]
      ·subst e4
       simp only [true_and] at hR;have hsn:=fun hx=>nY (s:=s) (n:=n) hx;generalize hXX:jg s n=X at*;generalize hYY:jP s n=S at*;clear hXX hYY;obtain ⟨abe,HR,HSN⟩:=bP hcut hR hsn;clear hcut hR hsn
       go_wp2_with fail
       refine (abe.out _ F1.out).mono ?_;rintro e w4 ⟨rfl,j4⟩;have J4:=O (JTo.after F1.out j4);clear j4;have hR:=HR.out;clear HR
       by_cases hx:X=0
       ·rw [if_pos hx] at hR
        subst hR hx
        go_wp2_with fail
        go_ret
        exact ⟨au rfl,J4.out⟩
       ·rw [if_neg hx] at hR
        subst hR;have b9:(X == 0)=false:=by simpa using hx
        have HXX:=O hx;clear hx
        go_wp2_with fail
        go_ret
        refine ⟨au rfl,?_⟩;have hx:=HXX.out;have:=J4.out;rw [HSN.out hx] at this;exact this
      ·rw [if_neg (fun hh=>e4 hh.1)] at hR
       subst hR;have hq3:((q.length:Int) == 0)=false:=by simpa using e4
       clear hcut;have E4:=O e4;clear e4
       go_wp2_with fail
       go_ret
       exact ⟨au rfl,HNO.out _ F1.out⟩
     ·have t3:(kd == 3)=false:=by simpa using e3
      rw [if_neg e3] at hR;subst hR;clear n2 k2 r2 haft h
      go_wp2_with fail
      go_ret
      exact ⟨au rfl,HNO.out _ F1.out⟩
structure Ms where
 kind:Int
 from_:Int
 to_:Int
 term:Int
 index:Int
 prev:Int
 commit:Int
 ok:Bool
 es:List Lg
structure Rs where
 js:Js
 id:Nat
 n:Nat
 role:Int
 commit:Nat
 aY:Nat
 next:Nat→Nat
 cO:Nat→Nat
def dF (id n:Nat):Rs:=⟨iZ,id,n,1,0,0,fun _=>0,fun _=>0⟩
def lastT (l:List Lg):Int:=aD l ((l.length:Int)-1)
def others (id n:Nat):List Nat:=(List.range n).filter (·!= id)
def Rs.cu (r:Rs)(dst:Nat):Ms:=⟨1,r.id,dst,r.js.term,r.js.log.length,lastT r.js.log,0,false,[]⟩
def Rs.app (r:Rs)(dst:Nat):Ms:=⟨3,r.id,dst,r.js.term,r.next dst,aD r.js.log ((r.next dst:Int)-1),r.commit,false,r.js.log.drop (r.next dst)⟩
def Rs.gF (r:Rs):List Ms:=(others r.id r.n).map r.app
def Rs.lead (r:Rs):Rs:={r with role:=3,next:=fun _=>r.js.log.length,cO:=fun _=>0}
def Rs.stores (r:Rs)(m:Nat):Nat→Nat
 |0=>1
 |k+1=>r.stores m k+if k≠r.id∧m≤r.cO k then 1 else 0
def Rs.lg (r:Rs):Nat→Nat
 |0=>r.commit
 |m+1=>if m+1≤r.commit then r.commit else if aD r.js.log (m:Int)=r.js.term∧r.n<2*r.stores (m+1) r.n then m+1 else r.lg m
def Rs.advance (r:Rs):Rs:={r with commit:=r.lg r.js.log.length}
def lS (v:Nat):Nat→Nat
 |0=>0
 |k+1=>lS v k+if v.testBit k then 1 else 0
def Rs.aJ (r:Rs):Rs×List Ms:=
 if 1073741824≤r.js.term then (r,[]) else
 if r.n=1 then (({r with js:=⟨r.js.term+1,r.id,r.js.log⟩,role:=2,aY:=2 ^ r.id}:Rs).lead,[]) else
 (({r with js:=⟨r.js.term+1,r.id,r.js.log⟩,role:=2,aY:=2 ^ r.id}:Rs),(others r.id r.n).map ({r with js:=⟨r.js.term+1,r.id,r.js.log⟩,role:=2,aY:=2 ^ r.id}:Rs).cu)
def Rs.proposed (r:Rs)(e:En):Rs:=({r with js:=gT r.js r.js.term e}:Rs).advance
def Rs.fH (r:Rs)(e:En):Int:=if r.role≠3 then 4 else iB r.js r.js.term e
def Rs.propose (r:Rs)(e:En):Rs×List Ms:=if r.fH e=0 then (r.proposed e,(r.proposed e).gF) else (r,[])
def Rs.nD (r:Rs):List Ms:=if r.role≠3 then [] else r.gF
def chainB (hi:Int):Int→List Lg→Bool
 |_,[]=>true
 |low,x :: l=>dW x.e && (decide (low≤x.term) && (decide (x.term≤hi) && chainB hi x.term l))
def eu (m:Ms):Bool:=((m.prev == 0) == (m.index == 0)) && (decide (m.index+m.es.length≤4096) && chainB m.term (max 1 m.prev) m.es)
def Rs.ac0 (r:Rs)(m:Ms):Bool:=
 decide (m.to_=r.id∧m.from_≠r.id∧0≤m.from_∧m.from_<r.n∧1≤m.term∧m.term≤1073741824∧0≤m.index∧m.index≤4096∧0≤m.prev∧m.prev≤m.term∧0≤m.commit∧m.commit≤4096)
def Rs.proper (r:Rs)(m:Ms):Bool:=r.ac0 m && (decide (m.kind=1∨m.kind=2∨m.kind=4) || (decide (m.kind=3) && eu m))
def Rs.meets (r:Rs)(t:Int):Rs:=if r.js.term<t then {r with js:=⟨t,-1,r.js.log⟩,role:=1} else r
def Rs.grants (r:Rs)(m:Ms):Bool:=
 decide (m.term=r.js.term∧(r.js.cu= -1∨r.js.cu=m.from_)∧(lastT r.js.log<m.prev∨m.prev=lastT r.js.log∧(r.js.log.length:Int)≤m.index))
def Rs.dK (r:Rs)(m:Ms):Rs×List Ms:=
 (if r.grants m then {r with js:=⟨m.term,m.from_,r.js.log⟩} else r,[⟨2,r.id,m.from_,r.js.term,0,0,0,r.grants m,[]⟩])
def Rs.bW (r:Rs)(m:Ms):Rs×List Ms:=
 if r.role≠2∨m.term≠r.js.term∨m.ok=false then (r,[]) else
 if 2*lS (r.aY |||2 ^ m.from_.toNat) r.n≤r.n then ({r with aY:=r.aY |||2 ^ m.from_.toNat},[]) else
 (({r with aY:=r.aY |||2 ^ m.from_.toNat}:Rs).lead,({r with aY:=r.aY |||2 ^ m.from_.toNat}:Rs).lead.gF)
def Rs.answer (r:Rs)(dst index:Int)(ok:Bool):List Ms:=[⟨4,r.id,dst,r.js.term,index,0,0,ok,[]⟩]
def aX (l:List Lg):Nat→List Lg→Nat
 |_,[]=>0
 |p,x :: es=>if aD l (p:Int)=x.term then aX l (p+1) es+1 else 0
def bO (s:Js)(es:List Lg):Js:=es.foldl (fun s x=>gT s x.term x.e) s
def replaceS (s:Js)(p:Nat)(es:List Lg):Js:=bO (if p<s.log.length then ⟨s.term,s.cu,s.log.take p⟩ else s) es
def Rs.fits (r:Rs)(m:Ms):Bool:=decide (m.index≤r.js.log.length∧(m.index=0∨aD r.js.log (m.index-1)=m.prev))
def Rs.aK (r:Rs)(m:Ms):Rs×List Ms:=
 if m.term<r.js.term then (r,r.answer m.from_ 0 false) else
 if r.role=3 then (r,[]) else
 if r.fits m=false then ({r with role:=1},r.answer m.from_ (min (r.js.log.length:Int) (m.index-1)) false) else
 if aX r.js.log m.index.toNat m.es<m.es.length then
  if m.index.toNat+aX r.js.log m.index.toNat m.es<r.commit then ({r with role:=1},[]) else
  ({r with role:=1,js:=replaceS r.js (m.index.toNat+aX r.js.log m.index.toNat m.es) (m.es.drop (aX r.js.log m.index.toNat m.es)),commit:=max r.commit (min m.commit.toNat (m.index.toNat+m.es.length))},r.answer m.from_ (m.index+m.es.length) true)
 else ({r with role:=1,commit:=max r.commit (min m.commit.toNat (m.index.toNat+m.es.length))},r.answer m.from_ (m.index+m.es.length) true)
def setAt (f:Nat→Nat)(i v:Nat):Nat→Nat:=fun k=>if k=i then v else f k
def Rs.aR (r:Rs)(m:Ms):Rs×List Ms:=
 if r.role≠3∨m.term≠r.js.term then (r,[]) else
 if m.ok=false then
  ({r with next:=setAt r.next m.from_.toNat (min (r.next m.from_.toNat-1) m.index.toNat)},[({r with next:=setAt r.next m.from_.toNat (min (r.next m.from_.toNat-1) m.index.toNat)}:Rs).app m.from_.toNat])
 else if m.index≤r.js.log.length then
  (({r with cO:=setAt r.cO m.from_.toNat (max (r.cO m.from_.toNat) m.index.toNat),next:=setAt r.next m.from_.toNat (max (r.cO m.from_.toNat) m.index.toNat)}:Rs).advance,[])
 else (r,[])
def Rs.takes (r:Rs)(m:Ms):Rs×List Ms:=
 if m.kind=1 then r.dK m else if m.kind=2 then r.bW m else if m.kind=3 then r.aK m else r.aR m
def Rs.handle (r:Rs)(m:Ms):Rs×List Ms:=if r.proper m=false then (r,[]) else (r.meets m.term).takes m
def Rs.crash (r:Rs):Rs:={r with role:=1,commit:=0}
structure ig (l:List Lg) (hi:Int):Prop where
 few:l.length≤4096
 each:∀x∈l,1≤x.term∧x.term≤hi∧dW x.e=true∧x.e.ok
 asc:∀(i j:Nat) (x y:Lg),i≤j→l[i]? =some x→l[j]? =some y→x.term≤y.term
structure bU (r:Rs):Prop where
 log:ig r.js.log r.js.term
 lo:0≤r.js.term
 hi:r.js.term≤1073741824
 vlo: -1≤r.js.cu
 vhi:r.js.cu<5
 idn:r.id<r.n
 five:r.n≤5
 role:r.role=1∨r.role=2∨r.role=3
 com:r.commit≤r.js.log.length
 vts:r.aY<32
 nxt:r.role=3→∀i,r.next i≤r.js.log.length
 mts:r.role=3→∀i,r.cO i≤r.js.log.length
theorem ig.nil (hi:Int):ig [] hi:=⟨by simp,(fun x h=>by cases h),fun i j x y _ h=>by simp at h⟩
theorem ig.up {l:List Lg}{a b:Int}(h:ig l a)(hab:a≤b):ig l b:=⟨h.few,fun x hx=>by obtain ⟨h1,h2,h3⟩:=h.each x hx;exact ⟨h1,by omega,h3⟩,h.asc⟩
theorem ig.take {l:List Lg}{a:Int}(h:ig l a)(k:Nat):ig (l.take k) a:=by
 refine ⟨by have:=h.few;rw [List.length_take];omega,fun x hx=>h.each x (List.mem_of_mem_take hx),fun i j x y hij hx hy=> ?_⟩;rw [List.getElem?_take] at hx hy
 split at hx
 ·split at hy
  ·exact h.asc i j x y hij hx hy
  ·cases hy
 ·cases hx
theorem iH {l:List Lg}{k:Nat}{x:Lg}(h:l[k]? =some x):aD l (k:Int)=x.term:=by
 unfold aD;rw [if_pos oy,Int.toNat_natCast,h]
 rfl
theorem iE {l:List Lg}{k:Nat}(h:l.length≤k):aD l (k:Int)=0:=by
 unfold aD;rw [if_pos oy,Int.toNat_natCast,List.getElem?_eq_none h]
 rfl
theorem zP {l:List Lg}{k:Int}(h:k<0):aD l k=0:=by
 unfold aD;rw [if_neg oy]
theorem ig.abn {l:List Lg}{a:Int}(h:ig l a)(ha:0≤a)(k:Int):0≤aD l k∧aD l k≤a:=by
 by_cases hk:k<0
 ·rw [zP hk];omega
 ·obtain ⟨n,rfl⟩:∃n:Nat,k=n:=⟨k.toNat,by omega⟩
  by_cases hn:l.length≤n
  ·rw [iE hn];omega
  ·obtain ⟨x,hx⟩:∃x,l[n]? =some x:=⟨_,List.getElem?_eq_getElem oy⟩
   rw [iH hx];have:=h.each x (List.mem_of_getElem? hx)
   omega
theorem ig.mono {l:List Lg}{a:Int}(h:ig l a){i j:Nat}(hij:i≤j)(hj:j<l.length):aD l (i:Int)≤aD l (j:Int):=by
 obtain ⟨x,hx⟩:∃x,l[i]? =some x:=⟨_,List.getElem?_eq_getElem oy⟩;obtain ⟨y,hy⟩:∃y,l[j]? =some y:=⟨_,List.getElem?_eq_getElem hj⟩;rw [iH hx,iH hy];exact h.asc i j x y hij hx hy
theorem ig.snoc {l:List Lg}{a:Int}(h:ig l a){x:Lg}(h1:1≤x.term)(h2:x.term≤a)(h3:dW x.e=true)(h4:x.e.ok)(h5:lastT l≤x.term)(h6:l.length<4096):ig (l++[x]) a:=by
 have hl:∀(i:Nat) (y:Lg),l[i]? =some y→y.term≤x.term:=fun i y hy=>by
  have hi:=(List.getElem?_eq_some_iff.1 hy).1;obtain ⟨z,hz⟩:∃z,l[l.length-1]? =some z:=⟨_,List.getElem?_eq_getElem oy⟩;have:=h.asc i (l.length-1) y z oy hy hz;have h7:lastT l=z.term:=by unfold lastT;rw [show ((l.length:Int)-1)=((l.length-1:Nat):Int) from by omega,iH hz]
  omega
 refine ⟨by simp;omega,fun y hy=> ?_,fun i j y z hij hy hz=> ?_⟩
 ·rcases List.mem_append.1 hy with hy|hy
  ·exact h.each y hy
  ·simp at hy;subst hy;exact ⟨h1,h2,h3,h4⟩
 ·rcases Nat.lt_or_ge j l.length with hj|hj
  ·rw [List.getElem?_append_left oy] at hy
   rw [List.getElem?_append_left hj] at hz;exact h.asc i j y z hij hy hz
  ·rw [List.getElem?_append_right hj] at hz
   have hj0:j-l.length=0:=by
    have:=(List.getElem?_eq_some_iff.1 hz).1
    simp at this;omega
   rw [hj0] at hz
   simp at hz
   subst hz
   rcases Nat.lt_or_ge i l.length with hi|hi
   ·rw [List.getElem?_append_left hi] at hy
    exact hl i y hy
   ·rw [List.getElem?_append_right hi] at hy
    have hi0:i-l.length=0:=by omega
    rw [hi0] at hy
    simp at hy
    subst hy;exact Int.le_refl _
theorem fG (s:Js)(t v:Int)(h1:0≤t)(h2:t≤1073741824)(h3: -1≤v)(h4:v<5)(h5:s.term<t∨s.term=t∧(s.cu= -1∨s.cu=v)):bB s t v=0∧bC s t v=⟨t,v,s.log⟩:=by
 have hx:bB s t v=0:=by
  unfold bB;rw [if_neg oy,if_neg (by rcases h5 with h5|⟨h5,h6|h6⟩<;>omega)]
 exact ⟨hx,by unfold bC;rw [if_pos hx]⟩
theorem aeu {s:Js}{t:Int}{e:En}(h1:1≤t)(h2:t≤1073741824)(h3:dW e=true)(h4:t≤s.term)(h5:lastT s.log≤t)(h6:s.log.length<4096):iB s t e=0:=by
 unfold iB;unfold lastT at h5;rw [if_neg (by rw [h3];simp;omega),if_neg oy,if_neg oy]
theorem lq {s:Js}{t:Int}{e:En}(h:iB s t e=0):gT s t e=⟨s.term,s.cu,s.log++[⟨t,e⟩]⟩:=by unfold gT;rw [if_pos h]
theorem ig.add {s:Js}(h:ig s.log s.term)(t:Int)(e:En)(he:e.ok):ig (gT s t e).log (gT s t e).term:=by
 by_cases h0:iB s t e=0
 ·rw [lq h0]
  obtain ⟨b1,b2,b3,b4,b5,b6⟩:=mF h0;exact h.snoc b1 b4 b3 he b5 b6
 ·rw [gJ h0];exact h
theorem yw (s:Js)(t:Int)(e:En):(gT s t e).term=s.term∧(gT s t e).cu=s.cu:=by
 by_cases h0:iB s t e=0
 ·rw [lq h0];exact ⟨rfl,rfl⟩
 ·rw [gJ h0];exact ⟨rfl,rfl⟩
theorem yx (s:Js)(x:Lg)(es:List Lg):bO s (x :: es)=bO (gT s x.term x.e) es:=rfl
theorem ig.bO (es:List Lg):∀{s:Js},ig s.log s.term→(∀x∈es,x.e.ok)→ig (bO s es).log (bO s es).term:=by
 induction es with
 |nil=>exact fun h _=>h
 |cons x es ih=>exact fun h he=>ih (h.add x.term x.e (he x (by simp))) fun y hy=>he y (by simp [hy])
theorem gI {hi:Int}:∀(es:List Lg) (low:Int),chainB hi low es=true→∀x∈es,dW x.e=true∧low≤x.term∧x.term≤hi:=by
 intro es
 induction es with
 |nil=>intro low _ x hx;cases hx
 |cons y es ih=>
  intro low h x hx;simp only [chainB,Bool.and_eq_true,decide_eq_true_eq] at h
  rcases List.mem_cons.1 hx with rfl|hx
  ·exact ⟨h.1,h.2.1,h.2.2.1⟩
  ·have:=ih y.term h.2.2.2 x hx
   exact ⟨this.1,by omega,this.2.2⟩
theorem yt {hi:Int}:∀(es:List Lg) (low:Int) (k:Nat),chainB hi low es=true→(k=0∧chainB hi low (es.drop k)=true)∨(es.length≤k)∨(∃y,es[k-1]? =some y∧0<k∧chainB hi y.term (es.drop k)=true):=by
 intro es
 induction es with
 |nil=>intro low k h;exact .inr (.inl (Nat.zero_le _))
 |cons y es ih=>
  intro low k h
  rcases k with _|k
  ·exact .inl ⟨rfl,h⟩
  ·simp only [chainB,Bool.and_eq_true,decide_eq_true_eq] at h
   rcases ih y.term k h.2.2.2 with ⟨rfl,h2⟩|h2|⟨z,h2,h3,h4⟩
   ·exact .inr (.inr ⟨y,rfl,by omega,by simpa using h2⟩)
   ·exact .inr (.inl (by simpa using h2))
   ·refine .inr (.inr ⟨z,?_,by omega,by simpa using h4⟩)
    rw [show k+1-1=(k-1)+1 from by omega]
    simpa using h2
theorem tL (es:List Lg):∀{s:Js} {low:Int},chainB s.term low es=true→1≤low→s.term≤1073741824→lastT s.log≤low→s.log.length+es.length≤4096→bO s es=⟨s.term,s.cu,s.log++es⟩:=by
 induction es with
 |nil=>intro s low _ _ _ _ _;rw [List.append_nil];rfl
 |cons x es ih=>
  intro s low h h1 h2 h3 h4;simp only [chainB,Bool.and_eq_true,decide_eq_true_eq] at h;obtain ⟨g1,g2,g3,g4⟩:=h;rw [List.length_cons] at h4;have hx:iB s x.term x.e=0:=aeu oy oy g1 g3 oy oy;rw [yx,lq hx];have hl:lastT (s.log++[⟨x.term,x.e⟩])=x.term:=by
   unfold lastT;rw [show (((s.log++[(⟨x.term,x.e⟩:Lg)]).length:Int)-1)=((s.log.length:Nat):Int) from by simp];exact iH (x:=⟨x.term,x.e⟩) (by rw [List.getElem?_append_right (Nat.le_refl _)];simp)
  have h5:=ih (s:=⟨s.term,s.cu,s.log++[⟨x.term,x.e⟩]⟩) (low:=x.term) g4 oy h2 (by show lastT (s.log++[⟨x.term,x.e⟩])≤_;omega) (by simp only [List.length_append,List.length_singleton];omega);rw [h5]
  simp
theorem iL (l:List Lg)(es:List Lg):∀p,aX l p es≤es.length:=by
 induction es with
 |nil=>intro p;exact Nat.le_refl _
 |cons x es ih=>
  intro p;simp only [aX]
  split
  ·have:=ih (p+1);simp;omega
  ·exact Nat.zero_le _
theorem qC (l:List Lg)(es:List Lg):∀p k,k<aX l p es→∃y,es[k]? =some y∧aD l ((p+k:Nat):Int)=y.term:=by
 induction es with
 |nil=>intro p k h;simp [aX] at h
 |cons x es ih=>
  intro p k h;simp only [aX] at h
  split at h
  ·rename_i h0
   rcases k with _|k
   ·exact ⟨x,rfl,h0⟩
   ·obtain ⟨y,h1,h2⟩:=ih (p+1) k oy
    exact ⟨y,by simpa using h1,by rw [show p+(k+1)=p+1+k from by omega];exact h2⟩
  ·omega
theorem Rs.aes (r:Rs):∀m,r.commit≤r.lg m∧(r.lg m≤r.commit∨r.lg m≤m):=by
 intro m
 induction m with
 |zero=>exact ⟨Nat.le_refl _,.inl (Nat.le_refl _)⟩
 |succ m ih=>
  simp only [Rs.lg]
  split
  ·exact ⟨Nat.le_refl _,.inl (Nat.le_refl _)⟩
  ·split
   ·exact ⟨by omega,.inr (Nat.le_refl _)⟩
   ·omega
theorem kP {id n k:Nat}:k∈others id n↔k<n∧k≠id:=by simp [others]
theorem bU.new {id n:Nat}(h1:id<n)(h2:n≤5):bU (dF id n):=
 ⟨ig.nil _,by simp [dF],by simp [dF],by simp [dF],by simp [dF],h1,h2,.inl rfl,Nat.le_refl _,by simp [dF],fun h=>by simp [dF] at h,fun h=>by simp [dF] at h⟩
theorem bU.lead {r:Rs}(h:bU r):bU r.lead:=
 ⟨h.log,h.lo,h.hi,h.vlo,h.vhi,h.idn,h.five,.inr (.inr rfl),h.com,h.vts,fun _ _=>Nat.le_refl _,fun _ _=>Nat.zero_le _⟩
theorem bU.advance {r:Rs}(h:bU r):bU r.advance:=by
 refine ⟨h.log,h.lo,h.hi,h.vlo,h.vhi,h.idn,h.five,h.role,?_,h.vts,h.nxt,h.mts⟩;have h1:=r.aes r.js.log.length;have h2:=h.com
 show r.lg r.js.log.length≤r.js.log.length
 omega
theorem bU.meets {r:Rs}(h:bU r)(t:Int)(ht:t≤1073741824):bU (r.meets t):=by
 unfold Rs.meets
 split
 ·have h1:=h.lo
  exact ⟨h.log.up (by simp only;omega),by simp only;omega,ht,by simp,by simp,h.idn,h.five,.inl rfl,h.com,h.vts,fun hh=>by simp at hh,fun hh=>by simp at hh⟩
 ·exact h
theorem iG (r:Rs)(t:Int):t≤(r.meets t).js.term∧r.js.term≤(r.meets t).js.term:=by
 unfold Rs.meets
 split
 ·simp only;omega
 ·omega
theorem uz (r:Rs)(t:Int):(r.meets t).id=r.id∧(r.meets t).n=r.n∧(r.meets t).js.log=r.js.log∧(r.meets t).commit=r.commit:=by
 unfold Rs.meets
 split<;>exact ⟨rfl,rfl,rfl,rfl⟩
structure bH (r:Rs) (m:Ms):Prop where
 to_:m.to_=r.id
 ne:m.from_≠r.id
 f0:0≤m.from_
 f1:m.from_<r.n
 t0:1≤m.term
 t1:m.term≤1073741824
 i0:0≤m.index
 i1:m.index≤4096
 p0:0≤m.prev
 p1:m.prev≤m.term
 c0:0≤m.commit
 c1:m.commit≤4096
 k:m.kind=1∨m.kind=2∨m.kind=3∨m.kind=4
 a:m.kind=3→eu m=true
theorem Rs.cB {r:Rs}{m:Ms}:r.proper m=true↔bH r m:=by
 unfold Rs.proper Rs.ac0;simp only [Bool.and_eq_true,Bool.or_eq_true,decide_eq_true_eq]
 constructor
 ·rintro ⟨⟨h1,h2,h3,h4,h5,h6,h7,h8,h9,h10,h11,h12⟩,h13⟩
  refine ⟨h1,h2,h3,h4,h5,h6,h7,h8,h9,h10,h11,h12,by omega,fun hk=> ?_⟩
  rcases h13 with h|h
  ·omega
  ·exact h.2
 ·intro h
  refine ⟨⟨h.to_,h.ne,h.f0,h.f1,h.t0,h.t1,h.i0,h.i1,h.p0,h.p1,h.c0,h.c1⟩,?_⟩
  by_cases hk:m.kind=3
  ·exact .inr ⟨hk,h.a hk⟩
  ·have:=h.k
   exact .inl oy
theorem bH.kQ {r:Rs}{m:Ms}(h:bH r m)(t:Int):bH (r.meets t) m:=by
 obtain ⟨h1,h2,-⟩:=uz r t;exact ⟨by rw [h1];exact h.to_,by rw [h1];exact h.ne,h.f0,by rw [h2];exact h.f1,h.t0,h.t1,h.i0,h.i1,h.p0,h.p1,h.c0,h.c1,h.k,h.a⟩
theorem fB {m:Ms}(h:eu m=true):(m.prev=0↔m.index=0)∧m.index+m.es.length≤4096∧chainB m.term (max 1 m.prev) m.es=true:=by
 unfold eu at h;simp only [Bool.and_eq_true,decide_eq_true_eq,beq_iff_eq] at h;refine ⟨?_,h.2.1,h.2.2⟩;have h1:=h.1
 constructor
 ·intro h2
  rw [h2] at h1
  simp at h1
  omega
 ·intro h2
  rw [h2] at h1
  simp at h1
  omega
theorem bU.dK {r:Rs}{m:Ms}(h:bU r)(hm:bH r m):bU (r.dK m).1:=by
 unfold Rs.dK;simp only
 split
 ·rename_i hg
  unfold Rs.grants at hg;simp only [decide_eq_true_eq] at hg;have h1:=hg.1;have:=h.five;have:=hm.f0;have:=hm.f1;exact ⟨by rw [h1];exact h.log,by simp only;have:=hm.t0;omega,hm.t1,by simp only;omega,by simp only;omega,h.idn,h.five,h.role,h.com,h.vts,h.nxt,h.mts⟩
 ·exact h
theorem bU.zO {r:Rs}{m:Ms}(h:bU r)(hm:bH r m):bU {r with aY:=r.aY |||2 ^ m.from_.toNat}:=by
 refine ⟨h.log,h.lo,h.hi,h.vlo,h.vhi,h.idn,h.five,h.role,h.com,?_,h.nxt,h.mts⟩;have h1:=h.five;have h2:=hm.f1;have h3:=hm.f0;have h4:m.from_.toNat<5:=by omega
 have h5:(2:Nat) ^ m.from_.toNat<2 ^ 5:=Nat.pow_lt_pow_right oy h4;exact Nat.or_lt_two_pow (n:=5) h.vts h5
theorem bU.bW {r:Rs}{m:Ms}(h:bU r)(hm:bH r m):bU (r.bW m).1:=by
 unfold Rs.bW
 split
 ·exact h
 ·split
  ·exact h.zO hm
  ·exact (h.zO hm).lead
theorem jv {r:Rs}{m:Ms}(h:bU r)(hm:bH r m)(hk:m.kind=3)(ht:m.term=r.js.term)(hf:r.fits m=true):
  m.index.toNat+aX r.js.log m.index.toNat m.es≤r.js.log.length∧
  (aX r.js.log m.index.toNat m.es<m.es.length→replaceS r.js (m.index.toNat+aX r.js.log m.index.toNat m.es) (m.es.drop (aX r.js.log m.index.toNat m.es))=
   ⟨r.js.term,r.js.cu,r.js.log.take (m.index.toNat+aX r.js.log m.index.toNat m.es)++m.es.drop (aX r.js.log m.index.toNat m.es)⟩):=by
 obtain ⟨a1,a2,a3⟩:=fB (hm.a hk);unfold Rs.fits at hf;simp only [decide_eq_true_eq] at hf;have hi0:=hm.i0;generalize hK:aX r.js.log m.index.toNat m.es=K at*;generalize hi:m.index.toNat=i at*;have hx:m.index=(i:Int):=by omega
 have hle:i+K≤r.js.log.length:=by
  rcases K with _|K
  ·omega
  ·obtain ⟨y,h1,h2⟩:=qC r.js.log m.es i K oy
   have h3:=(gI _ _ a3 y (List.mem_of_getElem? h1)).2.1
   rcases Nat.lt_or_ge (i+K) r.js.log.length with h4|h4
   ·omega
   ·rw [iE h4] at h2
    omega
 refine ⟨hle,fun hlt=> ?_⟩;have hcut:(if i+K<r.js.log.length then (⟨r.js.term,r.js.cu,r.js.log.take (i+K)⟩:Js) else r.js)=⟨r.js.term,r.js.cu,r.js.log.take (i+K)⟩:=by
  split
  ·rfl
  ·rw [List.take_of_length_le oy]
 unfold replaceS;rw [hcut];have hlast:∀q,q=i+K→0<q→lastT (r.js.log.take q)=aD r.js.log ((q-1:Nat):Int):=by
  intro q hq hq0;obtain ⟨x,hx⟩:∃x,r.js.log[q-1]? =some x:=⟨_,List.getElem?_eq_getElem oy⟩;unfold lastT;rw [List.length_take,show (((min q r.js.log.length:Nat):Int)-1)=((q-1:Nat):Int) from by omega,iH hx];exact iH (by rw [List.getElem?_take,if_pos oy];exact hx)
 have hhi:=h.hi
 rcases yt m.es (max 1 m.prev) K a3 with ⟨rfl,g1⟩|g1|⟨y,g1,g2,g3⟩
 ·rw [ht] at g1
  refine tL (low:=max 1 m.prev) (m.es.drop 0) g1 oy hhi ?_ (by simp only [List.length_take,List.length_drop];omega)
  rcases Nat.eq_zero_or_pos i with rfl|hi1
  ·simp [lastT,aD];omega
  ·show lastT (r.js.log.take (i+0))≤_
   rw [hlast _ rfl oy]
   rcases hf.2 with h1|h1
   ·omega
   ·rw [show ((i+0-1:Nat):Int)=m.index-1 from by omega,h1]
    omega
 ·omega
 ·rw [ht] at g3
  have hy:=(gI _ _ a3 y (List.mem_of_getElem? g1)).2.1;refine tL (low:=y.term) (m.es.drop K) g3 oy hhi ?_ (by simp only [List.length_take,List.length_drop];omega)
  show lastT (r.js.log.take (i+K))≤_
  rw [hlast _ rfl oy];obtain ⟨z,h1,h2⟩:=qC r.js.log m.es i (K-1) oy;rw [h1] at g1;injection g1 with g1;subst g1;rw [show i+K-1=i+(K-1) from by omega,h2];exact Int.le_refl _
theorem bU.aK {r:Rs}{m:Ms}(h:bU r)(hm:bH r m)(hk:m.kind=3)(ht:m.term≤r.js.term)(he:∀x∈m.es,x.e.ok):bU (r.aK m).1:=by
 unfold Rs.aK;have aqb:bU {r with role:=1}:=⟨h.log,h.lo,h.hi,h.vlo,h.vhi,h.idn,h.five,.inl rfl,h.com,h.vts,fun hh=>by simp at hh,fun hh=>by simp at hh⟩
 split
 ·exact h
 ·split
  ·exact h
  ·split
   ·exact aqb
   ·rename_i h1 h2 h3
    have ht2:m.term=r.js.term:=by omega
    obtain ⟨k1,k2⟩:=jv h hm hk ht2 (by simpa using h3);have hml:=iL r.js.log m.es m.index.toNat;have hi0:=hm.i0;obtain ⟨a1,a2,a3⟩:=fB (hm.a hk);have hcom:=h.com
    split
    ·rename_i h4
     split
     ·exact aqb
     ·rename_i h5
      rw [k2 h4];have hlen:(r.js.log.take (m.index.toNat+aX r.js.log m.index.toNat m.es)++m.es.drop (aX r.js.log m.index.toNat m.es)).length=m.index.toNat+m.es.length:=by
       simp only [List.length_append,List.length_take,List.length_drop];omega
      have akb:=ig.bO (s:=if m.index.toNat+aX r.js.log m.index.toNat m.es<r.js.log.length then (⟨r.js.term,r.js.cu,r.js.log.take (m.index.toNat+aX r.js.log m.index.toNat m.es)⟩:Js) else r.js) (m.es.drop (aX r.js.log m.index.toNat m.es)) (by
       split
       ·exact h.log.take _
       ·exact h.log) (fun x hx=>he x (List.mem_of_mem_drop hx))
      have hrep:=k2 h4;unfold replaceS at hrep;rw [hrep] at akb;refine ⟨akb,h.lo,h.hi,h.vlo,h.vhi,h.idn,h.five,.inl rfl,?_,h.vts,fun hh=>by simp at hh,fun hh=>by simp at hh⟩;simp only;rw [hlen]
      omega
    ·rename_i h4
     refine ⟨h.log,h.lo,h.hi,h.vlo,h.vhi,h.idn,h.five,.inl rfl,?_,h.vts,fun hh=>by simp at hh,fun hh=>by simp at hh⟩;simp only
     omega
theorem bU.aR {r:Rs}{m:Ms}(h:bU r):bU (r.aR m).1:=by
 unfold Rs.aR
 split
 ·exact h
 ·rename_i h0
  have hr:r.role=3:=by
   apply Classical.byContradiction
   intro hh;exact h0 (.inl hh)
  split
  ·refine ⟨h.log,h.lo,h.hi,h.vlo,h.vhi,h.idn,h.five,h.role,h.com,h.vts,fun hh i=> ?_,h.mts⟩
   simp only [setAt];have:=h.nxt hr i;have:=h.nxt hr m.from_.toNat
   split<;>omega
  ·split
   ·rename_i h1 h2
    refine bU.advance ⟨h.log,h.lo,h.hi,h.vlo,h.vhi,h.idn,h.five,h.role,h.com,h.vts,fun hh i=> ?_,fun hh i=> ?_⟩
    ·simp only [setAt]
     have:=h.nxt hr i;have:=h.mts hr m.from_.toNat
     split<;>omega
    ·simp only [setAt]
     have:=h.mts hr i;have:=h.mts hr m.from_.toNat
     split<;>omega
   ·exact h
theorem bU.takes {r:Rs}{m:Ms}(h:bU r)(hm:bH r m)(ht:m.term≤r.js.term)(he:∀x∈m.es,x.e.ok):bU (r.takes m).1:=by
 unfold Rs.takes
 split
 ·exact h.dK hm
 ·split
  ·exact h.bW hm
  ·split
   ·rename_i hk
    exact h.aK hm hk ht he
   ·exact h.aR
theorem bU.handle {r:Rs}{m:Ms}(h:bU r)(he:∀x∈m.es,x.e.ok):bU (r.handle m).1:=by
 unfold Rs.handle
 split
 ·exact h
 ·rename_i hp
  have hm:bH r m:=Rs.cB.1 (by simpa using hp);exact (h.meets m.term hm.t1).takes (hm.kQ m.term) (iG r m.term).1 he
theorem bU.crash {r:Rs}(h:bU r):bU r.crash:=
 ⟨h.log,h.lo,h.hi,h.vlo,h.vhi,h.idn,h.five,.inl rfl,Nat.zero_le _,h.vts,fun hh=>by simp [Rs.crash] at hh,fun hh=>by simp [Rs.crash] at hh⟩
theorem bU.aJ {r:Rs}(h:bU r):bU r.aJ.1:=by
 unfold Rs.aJ;have hid:=h.idn;have h5:=h.five;have hlo:=h.lo
 split
 ·exact h
 ·rename_i h0
  have hb:bU {r with js:=⟨r.js.term+1,r.id,r.js.log⟩,role:=2,aY:=2 ^ r.id}:=
   ⟨h.log.up (by simp only;omega),by simp only;omega,by simp only;omega,by simp only;omega,by simp only;omega,h.idn,h.five,.inr (.inl rfl),h.com,by
    have:(2:Nat) ^ r.id<2 ^ 5:=Nat.pow_lt_pow_right oy oy
    simpa using this,fun hh=>by simp at hh,fun hh=>by simp at hh⟩
  split
  ·exact hb.lead
  ·exact hb
theorem bU.proposed {r:Rs}(h:bU r)(e:En)(he:e.ok):bU (r.proposed e):=by
 unfold Rs.proposed
 apply bU.advance
 have hl:=h.log.add r.js.term e he;obtain ⟨t1,t2⟩:=yw r.js r.js.term e;have hlen:r.js.log.length≤(gT r.js r.js.term e).log.length:=by
  by_cases h0:iB r.js r.js.term e=0
  ·rw [lq h0];simp
  ·rw [gJ h0];exact Nat.le_refl _
 refine ⟨hl,?_,?_,?_,?_,h.idn,h.five,h.role,Nat.le_trans h.com hlen,h.vts,fun hh i=>Nat.le_trans (h.nxt hh i) hlen,fun hh i=>Nat.le_trans (h.mts hh i) hlen⟩
 ·simp only;rw [t1];exact h.lo
 ·simp only;rw [t1];exact h.hi
 ·simp only;rw [t2];exact h.vlo
 ·simp only;rw [t2];exact h.vhi
theorem bU.propose {r:Rs}(h:bU r)(e:En)(he:e.ok):bU (r.propose e).1:=by
 unfold Rs.propose
 split
 ·exact h.proposed e he
 ·exact h
theorem qd {s s' :Js}{r:List UInt8}(h:bT s r=some s')(hl:s.log.length≤4096):s'.log.length≤4096:=by
 unfold bT at h
 split at h
 ·cases h
 ·split at h
  ·cases h
  ·unfold fA at h
   split at h
   ·split at h
    ·cases h
    ·split at h
     ·rename_i hc
      injection h with h;subst h;unfold bC;rw [if_pos hc.2];exact hl
     ·cases h
   ·split at h
    ·split at h
     ·rename_i hc
      injection h with h;subst h;have:=mF hc.2.2;unfold gT;rw [if_pos hc.2.2]
      simp
      omega
     ·cases h
    ·split at h
     ·split at h
      ·rename_i hc
       injection h with h;subst h;unfold jP;rw [if_pos hc.2]
       simp
       omega
      ·cases h
     ·cases h
theorem JAt.forget {w:World}{F:Nat→Prop}{j d:Nat}{xs:List UInt8}{k:Nat}{s:Js}(h:JAt w F j d xs k s):
  JTo w F j d xs k iZ (((w.setCell ⟨j,1,none⟩ (.int .i64 0)).setCell ⟨j,2,none⟩ (.int .i64 (-1))).setCell ⟨j,3,none⟩ (.slice none 0 0)):=by
 obtain ⟨v,Fd,h1,h2,h3,h4,h5,h6,h7,h8⟩:=h;obtain ⟨F',g1,g2,g3⟩:=JAt.abt 0 (-1) h1 h2 h3 h4 h5 h6 h7 h8;obtain ⟨v',Fd',k1,k2,k3,k4,k5,k6,k7,k8⟩:=g1;have:=JAt.sD (l:=[]) (v' := .slice none 0 0) k1 k2 (bG.nil _ _ _ _) k4 k5 k6 (fun g hg=>by cases hg) k8;obtain ⟨F2,m1,m2,m3⟩:=this;exact ⟨F2,m1,fun i hi=>(m2 i hi).elim (fun h=>g2 i h) (fun h=> .inr (Nat.le_trans g3.size h)),g3.trans m3 g2⟩
theorem JTo.then {w w1 w' :World}{F F1:Nat→Prop}{j d:Nat}{ys:List UInt8}{m:Nat}{s' :Js}(hf:Fr F w w1)(hi:∀i,F1 i→F i∨w.heap.size≤i)(h:JTo w1 F1 j d ys m s' w'):JTo w F j d ys m s' w' :=by
 obtain ⟨F2,g3,g4,g5⟩:=h;exact ⟨F2,g3,fun i h=>(g4 i h).elim (fun h=>hi i h) (fun h=> .inr (Nat.le_trans hf.size h)),hf.trans g5 hi⟩
theorem ads {w:World}{F:Nat→Prop}{j d:Nat}{xs:List UInt8}{k:Nat}{s:Js}(h:JAt w F j d xs k s)(n:Nat)(hn:n≤xs.length):
  Calls Tryz.prog 137 #[.pointer (some ⟨d,0,none⟩),.int .i64 (n:Int)] w fun e w' =>e= .returned (.int .i64 0)∧JTo w F j d (xs.take n) (min k n) s w' :=by
 obtain ⟨v,Fd,h1,h2,h3,h4,h5,h6,h7,h8⟩:=h;exact (nX w Fd d xs k h4 n hn).mono fun e w' ⟨e1,e2⟩=>⟨e1,JAt.disk h1 h2 h3 h5 h6 h7 h8 e2⟩
theorem af8 {w:World}{F:Nat→Prop}{j d:Nat}{xs:List UInt8}{k:Nat}{s:Js}(h:JAt w F j d xs k s):
  Calls Tryz.prog 134 #[.pointer (some ⟨d,0,none⟩)] w fun e w' =>∃A c,e= .returned (.slice A xs.length c)∧Own w' (fun i=>w.heap.size≤i) 5 (.slice A xs.length c) (xs.map bv)∧Fr No w w' :=by
 obtain ⟨v,Fd,h1,h2,h3,h4,h5,h6,h7,h8⟩:=h;exact tF w Fd d xs k h4
theorem JAt.ptr {w:World}{F:Nat→Prop}{j d:Nat}{xs:List UInt8}{k:Nat}{s:Js}(h:JAt w F j d xs k s):w.cell? ⟨j,0,none⟩=some (.pointer (some ⟨d,0,none⟩)):=by
 obtain ⟨v,Fd,h1,_⟩:=h;exact h1.cell 0
theorem aiv {w:World}{F:Nat→Prop}{j d:Nat}{xs:List UInt8}{k:Nat}{s:Js}(h:JAt w F j d xs k s)(keep:Int):
  Calls Tryz.prog 98 #[.pointer (some ⟨j,0,none⟩),.int .i64 keep] w fun e w' =>e= .returned (.tuple #[])∧JTo w F j d ((xs.take (bJ xs.length k keep)).take (nK (xs.take (bJ xs.length k keep))).1) (min (bJ xs.length k keep) (nK (xs.take (bJ xs.length k keep))).1) (nK (xs.take (bJ xs.length k keep))).2 w' :=by
 obtain ⟨u0,hu0,gz0,gz1,gz2⟩:=info_parts bD;obtain ⟨A1,c1,Fd,h1,h2,h3,h4,h5,h6,h7,h8,d0,d1,d2,d3,hn⟩:=h.open_;have hxl:xs.length≤140737488355328:=by
  obtain ⟨v,g1,g2,g3,g4,g5,g6⟩:=h4;exact g5
 have hcr:=aav w Fd d xs k h4 keep;have hfin:=fun V' (hd:kI w Fd d (xs.take (bJ xs.length k keep)) (bJ xs.length k keep) V')=>JAt.disk h1 h2 h3 h5 h6 h7 h8 hd;have hbl:(xs.take (bJ xs.length k keep)).length≤xs.length:=by rw [List.length_take];omega
 revert hcr hfin hbl;generalize xs.take (bJ xs.length k keep)=b;generalize bJ xs.length k keep=nd;intro hcr hfin hbl;obtain ⟨T,hT⟩:∃T,T=nK b:=⟨_,rfl⟩;rw [←hT];unfold nK at hT;clear h h1 h2 h3 h4 h5 h6 h7 h8 hn d1 d2 d3;obtain ⟨HCR,bS,HT⟩:=bP hcr hfin hT;clear hcr hfin hT
 go_in
 go_wp2_with fail
 refine HCR.out.mono ?_;rintro e w1 ⟨rfl,dd⟩;obtain ⟨G1,a1,i1,f1⟩:=bS.out _ dd;clear HCR bS dd d0;obtain ⟨W2,hW2⟩:∃W2,W2=((w1.setCell ⟨j,1,none⟩ (.int .i64 0)).setCell ⟨j,2,none⟩ (.int .i64 (-1))).setCell ⟨j,3,none⟩ (.slice none 0 0):=⟨_,rfl⟩;have hfg:=a1.forget;rw [←hW2] at hfg;obtain ⟨A2,c2,Fd2,h1,-,-,-,-,-,-,-,d0,d1,d2,d3,-⟩:=a1.open_;have q1:=h1.frozen 1;have q2:=h1.frozen 2;have q3:=h1.frozen 3;clear h1 a1;obtain ⟨G2,a2,i2,f2⟩:=hfg;have adv:=fun ys m s' w' (hj:JTo W2 G2 j d ys m s' w')=>JTo.then f1 i1 (JTo.then f2 i2 hj);have hdb:=af8 a2;have aqr:=a2.lt;clear f1 i1 f2 i2;obtain ⟨A2,ajq,HDB,as8,HW2⟩:=jr a2 adv hdb aqr hW2;clear a2 adv hdb aqr hW2
 go_wp2_with fail
 rw [←HW2.out];clear HW2 d0 d1 d2 d3 q1 q2 q3;refine HDB.out.mono ?_;rintro e w3 ⟨B3,c3,rfl,o3,f3⟩;have hcap:=o3.cap;have hnil:=o3.len.2;have hne:∀g,Value.ownBlock (.slice B3 b.length c3)=some g→¬G2 g:=fun g hg hh=>by
  have x1:=o3.2 g hg;have x2:=as8.out g hh;simp only at x1
  omega
 have a3:=A2.out.ak f3;obtain ⟨F3,O3⟩:=aO f3 o3;clear o3 f3 HDB A2;obtain ⟨A3,HNE,ao1⟩:=bP a3 hne hnil;clear a3 hne hnil
 go_wp2_with fail
 go_loopw [5] (fun o wr=>∃(p f:Nat) (s' :Js),o= .int .i64 p∧p≤b.length∧b.length<f+p∧T=lZ f b p s'∧s'.log.length≤4096∧JTo w3 G2 j d b nd s' wr) (fun o _=>b.length-(intOf o).toNat)
 case atStart=>exact ⟨0,b.length+1,iZ,rfl,Nat.zero_le _,by omega,HT.out,by decide,A3.out.self⟩
 case round=>
  obtain ⟨p,f,s',rfl,hp,hf,hT2,hl4,hj⟩:=hrel;obtain ⟨G4,a4,i4,f4⟩:=hj;have wm:=fun W (hf:Fr No wr W) (hT3:T=(p,s'))=>ads (a4.ak hf) p hp;have ai2:=fun W (hf:Fr No wr W)=>(a4.ak hf).ptr;have hend:=fun w' ys m s9 (hj:JTo wr G4 j d ys m s9 w')=>ajq.out ys m s9 w' (JTo.after F3.out (JTo.then f4 i4 hj));have hcont:=fun w' s9 (hj:JTo wr G4 j d b nd s9 w')=>JTo.then f4 i4 hj;have o4:=O3.out.fr' f4 HNE.out;have d0:=a4.ptr;clear HT
  by_cases hlt:p<b.length
  ·rcases f with _|f
   ·omega
   rw [lZ,if_pos hlt] at hT2;obtain ⟨A4,hs2,hn2,hr2⟩:=jw (P:=Tryz.prog) 128 5 Tryz.underlying128 u0 hu0 gz1 B3 b.length c3 p hp ao1.out;have hr3:=hr2 wr wr.heap.size (b.map bv) (by rw [List.length_map];exact hcap.1) o4.rd;rw [←List.map_drop] at hr3;have hC:=aar A4 (b.length-p) (c3-p) 8 (b.drop p) wr wr.heap.size hn2 (by rw [List.length_drop]) hr3 oy oy;have hk:=oV 8 (b.drop p);rw [List.length_drop] at hk;unfold jq at hC;generalize aN 8 (b.drop p)=t at*;obtain ⟨tp,tk,te⟩:=t;simp only at hT2 hk hC;have hb1:decide ((p:Int)<(b.length:Int))=true:=by simp;omega
   clear hr2 hr3 hn2 f4 i4 o4
   by_cases h0:te=0
   ·rw [if_pos h0] at hT2
    have hk1:=hk h0;subst h0;have hrep:=fun W (hf:Fr No wr W) A5 c5 (o5:Own W (fun i=>wr.heap.size≤i) 5 (.slice A5 tp.length c5) (tp.map bv))=>af7 (a4.ak hf) hl4 A5 tp.length c5 tp W.heap.size o5.len.2 rfl (Nat.le_trans o5.cap.1 o5.cap.2) o5.cap.1 o5.rd (Nat.le_refl _);have hrl:=fun s9 hh=>qd (s:=s') (r:=tp) (s' :=s9) hh hl4;unfold amm at hrep;generalize hRR:bT s' tp=R at*;clear hRR hk wm ai2
    cases R with
    |none=>
     simp only [Option.isSome_none,Option.getD_none] at hT2 hrep;clear hrl hcont a4;obtain ⟨HC,qY,dZ,HT2⟩:=fK hC hrep hend hT2;clear hC hrep hend hT2
     go_wp2_with fail
     refine HC.out.mono ?_;rintro e w5 ⟨A5,c5,rfl,o5,f5⟩;obtain ⟨O5,F5⟩:=aO o5 f5;clear o5 f5 HC
     go_wp2_with fail
     refine (qY.out _ F5.out _ _ O5.out).mono ?_;rintro e w6 ⟨rfl,j6⟩;obtain ⟨G6,a6,i6,f6⟩:=j6;have d6:=a6.ptr;have hfin:=ads a6 p hp;have ady:=fun w' ys m s9 (hj:JTo w6 G6 j d ys m s9 w')=>dZ.out w' ys m s9 (JTo.after F5.out (JTo.then f6 i6 hj));clear a6 i6 f6 qY dZ;obtain ⟨bS,aj0⟩:=aO hfin ady;clear hfin ady
     go_wp2_with fail
     refine bS.out.mono ?_;rintro e w9 ⟨rfl,j9⟩;have J9:=O (aj0.out _ _ _ _ j9);clear j9
     go_wp2_with fail
     go_end0
     rw [HT2.out];exact ⟨rfl,J9.out⟩
    |some s9=>
     simp only [Option.isSome_some,Option.getD_some] at hT2 hrep;have hl9:=hrl s9 rfl;clear hrl hend a4;obtain ⟨HC,qY,aj1,HT2⟩:=fK hC hrep hcont hT2;clear hC hrep hcont hT2
     go_wp2_with fail
     refine HC.out.mono ?_;rintro e w5 ⟨A5,c5,rfl,o5,f5⟩;obtain ⟨O5,F5⟩:=aO o5 f5;clear o5 f5 HC
     go_wp2_with fail
     refine (qY.out _ F5.out _ _ O5.out).mono ?_;rintro e w6 ⟨rfl,j6⟩;have J6:=O (aj1.out _ _ (JTo.after F5.out j6));clear j6
     go_wp2_with fail
     go_roundw
     case rel=>exact ⟨p+tk,f,s9,by go_num,by omega,by omega,HT2.out,hl9,J6.out⟩
     case measure=>simp [intOf];omega
   ·rw [if_neg h0] at hT2
    have b1:(te == 0)=false:=by simpa using h0
    have b2:(te != 0)=true:=by simpa using h0
    clear hk hcont a4;obtain ⟨HC,aez,dZ,HT2,H0,asq⟩:=lG hC wm hend hT2 h0 ai2;clear hC wm hend hT2 h0 ai2
    go_wp2_with fail
    refine HC.out.mono ?_;rintro e w5 ⟨A5,c5,rfl,o5,f5⟩;have F5:=O f5;have d6:=asq.out _ F5.out;clear o5 f5 HC d0
    go_wp2_with fail
    refine (aez.out _ F5.out HT2.out).mono ?_;rintro e w9 ⟨rfl,j9⟩;have J9:=O (dZ.out _ _ _ _ (JTo.after F5.out j9));clear j9
    go_wp2_with fail
    go_end0
    rw [HT2.out];exact ⟨rfl,J9.out⟩
  ·have hTT:T=(p,s'):=by
    rw [hT2]
    rcases f with _|f
    ·rfl
    ·rw [lZ,if_neg hlt]
   have hb1:decide ((p:Int)<(b.length:Int))=false:=by simp;omega
   clear hT2 f4 i4 o4 ai2 a4 hcont;obtain ⟨aez,dZ,HTT⟩:=bP wm hend hTT;clear wm hend hTT
   go_wp2_with fail
   refine (aez.out _ (Fr.refl _ _) HTT.out).mono ?_;rintro e w9 ⟨rfl,j9⟩;have J9:=O (dZ.out _ _ _ _ j9);clear j9
   go_wp2_with fail
   go_end0
   rw [HTT.out];exact ⟨rfl,J9.out⟩
def bE (m:Int):En:=⟨16,0,-1,-1,-1,0,0,0,m⟩
theorem kR (m:Int)(h:0≤m)(h2:m<1000):(bE m).ok:=by
 intro x hx;simp only [bE,En.l,List.mem_cons,List.not_mem_nil,or_false] at hx
 rcases hx with rfl|rfl|rfl|rfl|rfl|rfl|rfl|rfl|rfl<;>omega
theorem JTo.own {w0 w1 w2:World}{F:Nat→Prop}{j d:Nat}{xs:List UInt8}{k:Nat}{s:Js}(h:JTo w1 F j d xs k s w2)(hf:Fr No w0 w1)(hN:∀i,F i→w0.heap.size≤i):∃F',JAt w2 F' j d xs k s∧(∀i,F' i→w0.heap.size≤i)∧Fr No w0 w2:=by
 obtain ⟨F',g1,g2,g3⟩:=h;exact ⟨F',g1,fun i hi=>(g2 i hi).elim (fun h=>hN i h) (fun h=>Nat.le_trans hf.size h),hf.aA g3 hN⟩
end Go.Proofs.YtjnfmfmglehmbaaGreat
