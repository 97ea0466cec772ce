/-
  The reference's replica: the answer to an append message is taken.
-/
import Derived.Test.YtjnfmfmglehmbaaGreatQ36
import Derived.Test.YtjnfmfmglehmbaaGreatQ37
import Derived.Test.YtjnfmfmglehmbaaGreatQ38
import Derived.Test.YtjnfmfmglehmbaaGreatQ39
import Derived.Test.YtjnfmfmglehmbaaGreatQ40
import Derived.Test.YtjnfmfmglehmbaaGreatQ41
import Derived.Test.YtjnfmfmglehmbaaGreatQ42
import Derived.Test.YtjnfmfmglehmbaaGreatQ45
import Derived.Test.YtjnfmfmglehmbaaGreatQ46
import Derived.Test.YtjnfmfmglehmbaaGreatQ47
import Derived.Test.YtjnfmfmglehmbaaGreatQ48
namespace Go.Proofs.YtjnfmfmglehmbaaGreat
open Go.ChangeShapes Go.WideShapes Go.ChangeAt Go.RowKit
set_option linter.unusedVariables false
set_option maxRecDepth 100000
set_option maxHeartbeats 4000000
section
section
variable {w w' w1:World}{F G Fj F' :Nat→Prop}{p:Nat}{r r' :Rs}{n m:Nat}{V X M V' X' M' :Value}{bs xs ms bs' xs' ms' :List Value}
set_option maxHeartbeats 16000000 in
theorem xk (h:bR w F p r n)(m:Ms)(v:Value)(hm:bH r m)(hX:¬(r.role=3∧m.term=r.js.term∧m.ok=true∧m.index≤r.js.log.length)):Calls Tryz.prog 109 #[.pointer (some ⟨p,0,none⟩),m.v v] w (aH w F p (r.aR m) n):=by
 have hok:=h.ok;have ake:=hm.f0;have akd:=hm.f1;have agd:=hm.i0;have agc:=hm.i1;have h5n:=hok.five;have lK:=hok.log.few;have hFl:=h.lt;obtain ⟨j,A,c,hc1,hc2,-,hcl⟩:=h.views;unfold maxLen at hc2;have hno:(r.role≠3∨m.term≠r.js.term)→r.aR m=(r,[]):=fun hh=>by unfold Rs.aR;rw [if_pos hh]
 have hn1:¬(r.role≠3∨m.term≠r.js.term)→m.ok=false→r.aR m=({r with next:=setAt r.next m.from_.toNat (min (r.next m.from_.toNat-1) m.index.toNat)},[({r with next:=setAt r.next m.from_.toNat (min (r.next m.from_.toNat-1) m.index.toNat)}:Rs).app m.from_.toNat]):=fun hh h2=>by unfold Rs.aR;rw [if_neg hh,if_pos h2]
 have hn2:¬(r.role≠3∨m.term≠r.js.term)→¬m.ok=false→m.index≤r.js.log.length→r.aR m=(({r with cO:=setAt r.cO m.from_.toNat (max (r.cO m.from_.toNat) m.index.toNat),next:=setAt r.next m.from_.toNat (max (r.cO m.from_.toNat) m.index.toNat)}:Rs).advance,[]):=fun hh h2 h3=>by unfold Rs.aR;rw [if_neg hh,if_neg h2,if_pos h3]
 have hn3:¬(r.role≠3∨m.term≠r.js.term)→¬m.ok=false→¬m.index≤r.js.log.length→r.aR m=(r,[]):=fun hh h2 h3=>by unfold Rs.aR;rw [if_neg hh,if_neg h2,if_neg h3]
 obtain ⟨kd,mf,mto,mt,ix,pv,cm,ok,es⟩:=m;simp only at*;obtain ⟨f,rfl⟩:∃f:Nat,mf=(f:Int):=⟨mf.toNat,by omega⟩;obtain ⟨i,rfl⟩:∃i:Nat,ix=(i:Int):=⟨ix.toNat,by omega⟩;rw [Int.toNat_natCast,Int.toNat_natCast] at hn1 hn2;have hfn:f<r.n:=by omega
 obtain ⟨W0,hW0⟩:∃W0,W0=w.alloc (.cells (cZ kd f mto mt i pv cm ok v) TMs):=⟨_,rfl⟩;have hf0:Fr No w W0:=by rw [hW0];exact aj _ _
 obtain ⟨g,hg⟩:∃g,g=w.heap.size:=⟨_,rfl⟩;have hb:Blk W0 g TMs (cZ kd f mto mt i pv cm ok v):=by rw [hW0,hg];exact Blk.new _ _ _
 have hgF:¬F g:=fun hh=>by have:=hFl g hh;omega
 have hC:∀W,Fr No W0 W→(W.cell? ⟨g,1,none⟩=some (.int .i64 (f:Int))∧W.cell? ⟨g,3,none⟩=some (.int .i64 mt)∧W.cell? ⟨g,4,none⟩=some (.int .i64 (i:Int))∧W.cell? ⟨g,7,none⟩=some (.bool ok)):=fun W hf=>let q:=hb.fr hf id;⟨q.cell 1,q.cell 3,q.cell 4,q.cell 7⟩;obtain ⟨⟨a0,-,a3,-⟩,-,b1,b3⟩:=hcl W0 hf0;obtain ⟨c1,c3,c4,c7⟩:=hC W0 (Fr.refl _ _)
 by_cases hAA:r.role≠3∨mt≠r.js.term
 ·have hcase:((r.role != 3)=true)∨((r.role != 3)=false∧(mt != r.js.term)=true):=by
   by_cases e1:r.role=3
   ·rcases hAA with e3|e3
    ·exact absurd e1 e3
    ·exact .inr ⟨by simpa using e1,by simpa using e3⟩
   ·exact .inl (by simpa using e1)
  rw [hno hAA];have hfin:=fun W (hf:Fr No W0 W)=>aH.mk' (bY.quiet (h.still hf0) hf) (fF.none_ W);clear h hok hm hcl hno hn1 hn2 hn3 hb hAA;obtain ⟨bS,HW0,HG,uP⟩:=fK hfin hW0 hg hcase;clear hfin hW0 hg hcase
  go_in
  go_upto_region 1 with fail
  rw [←HW0.out,←HG.out]
  rcases uP.out with u1|⟨u1,u2⟩
  all_goals
   clear uP
   go_wp2_with fail
   go_quiet (fail)
   go_wp2_with fail
   go_ret
   exact bS.out _ ((Fr.refl _ _).drewN _)
 have hr3:r.role=3:=by omega
 have u1:(r.role != 3)=false:=by simpa using hr3
 have u2:(mt != r.js.term)=false:=by simp;omega
 obtain ⟨jj,AA,cc,bx,cx,bm,cm',k1,k2,k3,k4,k5,k6,k7,k8,-,iQ⟩:=h.leads hr3;unfold maxLen at k2 k4 k6;have hfi:(f:Int)<(r.n:Int):=by omega
 have hX6:∀W,Fr No W0 W→(W.cell? ⟨p,6,none⟩=some (.slice (some ⟨bx,0,none⟩) r.n cx)∧W.cell? ⟨p,7,none⟩=some (.slice (some ⟨bm,0,none⟩) r.n cm')∧W.cell? ⟨bx,f,none⟩=some (.int .i64 (r.next f:Int))∧W.cell? ⟨bm,f,none⟩=some (.int .i64 (r.cO f:Int))):=fun W hf=>by
  obtain ⟨⟨-,-,-,-,y6,y7⟩,-,z⟩:=iQ W (hf0.ah hf);exact ⟨y6,y7,(z f hfn).1,(z f hfn).2⟩
 have hnx:=hok.nxt hr3 f;have hmx:=hok.mts hr3 f
 cases ok
 ·have hov:=hn1 hAA rfl
  have hst:∀W,Fr No W0 W→W.frozen? ⟨bx,f,none⟩=false∧F bx∧bY w F p {r with next:=setAt r.next f (min (r.next f-1) i)} n (W.setCell ⟨bx,f,none⟩ (.int .i64 ((min (r.next f-1) i:Nat):Int))):=fun W hf=>by
   obtain ⟨q1,q2,q3⟩:=(h.ak (hf0.ah hf)).ag6 hr3 (hX6 W hf).1 hfn (v:=min (r.next f-1) i) oy;exact ⟨q1,q2,bY.after (hf0.ah hf) q3⟩
  have hxv:(if 0<(if (i:Int)<(r.next f:Int)-1 then (i:Int) else (r.next f:Int)-1) then (if (i:Int)<(r.next f:Int)-1 then (i:Int) else (r.next f:Int)-1) else 0)=((min (r.next f-1) i:Nat):Int):=by split<;>split<;>omega
  have hgc:∀V W,Fr No W0 V→W=(V.setCell ⟨bx,f,none⟩ (.int .i64 ((min (r.next f-1) i:Nat):Int))).drew→W.cell? ⟨g,1,none⟩=some (.int .i64 (f:Int)):=fun V W hf he=>by
   rw [he];have hne:g≠bx:=fun e=>hgF (e▸(hst V hf).2.1);exact ((hb.fr hf id).fr (((Fr.refl (fun k=>k=bx) V).setCell (p:=⟨bx,f,none⟩) (.inl rfl) _).drew) hne).cell 1
  have happ:=fun W (hr:bY w F p {r with next:=setAt r.next f (min (r.next f-1) i)} n W)=>(let ⟨G,q,_,_⟩:=hr;vF q hr3 f hfn:Calls Tryz.prog 132 #[.pointer (some ⟨p,0,none⟩),.int .i64 (f:Int)] W (yG W (({r with next:=setAt r.next f (min (r.next f-1) i)}:Rs).app f)));generalize ({r with next:=setAt r.next f (min (r.next f-1) i)}:Rs).app f=am at*;clear h hok hm hcl hno hn1 hn2 hn3 hb hAA iQ k7 k8;obtain ⟨HXV,HOV,HST,HGC,wQ,HW0,HG,HF0,HC,HX6⟩:=lH hxv hov hst hgc happ hW0 hg hf0 hC hX6;clear hxv hov hst hgc happ hW0 hg hf0 hC hX6
  go_in
  go_upto_region 1 with fail
  rw [←HW0.out,←HG.out]
  go_wp2_with fail
  go_quiet (fail)
  have K1:=O ((Fr.refl No W0).drewN nq);clear a0 a3 b1 b3 c1 c3 c4 c7;generalize W0.drewN nq=W1 at*;obtain ⟨c1,c3,c4,c7⟩:=HC.out _ K1.out;obtain ⟨x6,x7,x8,x9⟩:=HX6.out _ K1.out;have fx:=(HST.out _ K1.out).1
  go_wp2_with fail
  go_region
  all_goals
   rw [HXV.out];generalize (if (i:Int)<(r.next f:Int)-1 then (i:Int) else (r.next f:Int)-1)=mn;obtain ⟨W2,hW2⟩:∃W2,W2=(W1.setCell ⟨bx,f,none⟩ (.int .i64 ((min (r.next f-1) i:Nat):Int))).drew:=⟨_,rfl⟩;rw [←hW2];have c1' :=HGC.out W1 W2 K1.out hW2;have t2:=(HST.out _ K1.out).2.2.quiet (Fr.refl _ _).drew;rw [←hW2] at t2;have ha9:=wQ.out _ t2;have R9:=O t2;clear t2 hW2 c1 c3 c4 c7 x6 x7 x8 x9 fx;have HA9:=O ha9;clear ha9
   go_wp2_with fail
   refine HA9.out.mono ?_;rintro e w5 ⟨x,rfl,hx,f5⟩;obtain ⟨HX,F5⟩:=aO hx f5;clear hx f5
   go_wp2_with fail
   go_ret
   rw [HOV.out];exact aH.mk' R9.out ⟨_,_,rfl,bF.one (m:=am) (Blk.new' _ _ _ _ rfl) (F5.out.size) ((HX.out.lt.ak (aj _ _)).mono fun i hi=>⟨hi.1,by have:=hi.2;omega⟩),F5.out.alloc _⟩
 by_cases hil:(i:Int)≤(r.js.log.length:Int)
 case neg=>
  have hov:=hn3 hAA dcd hil;rw [hov];have t1:decide ((i:Int)≤(r.js.log.length:Int))=false:=decide_eq_false hil;have t2:decide (i≤r.js.log.length)=false:=dff;have hfin:=fun W (hf:Fr No W0 W)=>aH.mk' (bY.quiet (h.still hf0) hf) (fF.none_ W);have hb3:∀W,Fr No W0 W→(W.cell? ⟨p,0,none⟩=some (.pointer (some ⟨j,0,none⟩))∧W.cell? ⟨j,3,none⟩=some (.slice A r.js.log.length c)):=fun W hf=>let ⟨⟨y0,_⟩,_,_,y3⟩:=hcl W (hf0.ah hf);⟨y0,y3⟩;clear h hok hm hcl hno hn1 hn2 hn3 hb hAA iQ k7 k8 hov;obtain ⟨bS,HW0,HG,HC,HB3⟩:=jr hfin hW0 hg hC hb3;clear hfin hW0 hg hC hb3
  go_in
  go_upto_region 1 with fail
  rw [←HW0.out,←HG.out]
  go_wp2_with fail
  go_quiet (fail)
  have K1:=O ((Fr.refl No W0).drewN nq);clear a0 a3 b1 b3 c1 c3 c4 c7;generalize W0.drewN nq=W1 at*;obtain ⟨c1,c3,c4,c7⟩:=HC.out _ K1.out;obtain ⟨a0,b3⟩:=HB3.out _ K1.out
  go_wp2_with fail
  go_quiet (fail)
  go_wp2_with fail
  go_ret
  exact bS.out _ (K1.out.drewN _)
 exact absurd ⟨hr3,by omega,rfl,hil⟩ hX
end
end
section
section
variable {w w' w1:World}{F G Fj F' :Nat→Prop}{p:Nat}{r r' :Rs}{n m:Nat}{V X M V' X' M' :Value}{bs xs ms bs' xs' ms' :List Value}
set_option maxHeartbeats 16000000 in
theorem xg (h:bR w F p r n)(m:Ms)(v:Value)(hm:bH r m)(hX1:r.role=3)(hX2:m.term=r.js.term)(hX3:m.ok=true)(hX4:m.index≤r.js.log.length):Calls Tryz.prog 109 #[.pointer (some ⟨p,0,none⟩),m.v v] w (aH w F p (r.aR m) n):=by
 have hok:=h.ok;have ake:=hm.f0;have akd:=hm.f1;have agd:=hm.i0;have agc:=hm.i1;have h5n:=hok.five;have lK:=hok.log.few;have hFl:=h.lt;obtain ⟨j,A,c,hc1,hc2,-,hcl⟩:=h.views;unfold maxLen at hc2;have hno:(r.role≠3∨m.term≠r.js.term)→r.aR m=(r,[]):=fun hh=>by unfold Rs.aR;rw [if_pos hh]
 have hn1:¬(r.role≠3∨m.term≠r.js.term)→m.ok=false→r.aR m=({r with next:=setAt r.next m.from_.toNat (min (r.next m.from_.toNat-1) m.index.toNat)},[({r with next:=setAt r.next m.from_.toNat (min (r.next m.from_.toNat-1) m.index.toNat)}:Rs).app m.from_.toNat]):=fun hh h2=>by unfold Rs.aR;rw [if_neg hh,if_pos h2]
 have hn2:¬(r.role≠3∨m.term≠r.js.term)→¬m.ok=false→m.index≤r.js.log.length→r.aR m=(({r with cO:=setAt r.cO m.from_.toNat (max (r.cO m.from_.toNat) m.index.toNat),next:=setAt r.next m.from_.toNat (max (r.cO m.from_.toNat) m.index.toNat)}:Rs).advance,[]):=fun hh h2 h3=>by unfold Rs.aR;rw [if_neg hh,if_neg h2,if_pos h3]
 have hn3:¬(r.role≠3∨m.term≠r.js.term)→¬m.ok=false→¬m.index≤r.js.log.length→r.aR m=(r,[]):=fun hh h2 h3=>by unfold Rs.aR;rw [if_neg hh,if_neg h2,if_neg h3]
 obtain ⟨kd,mf,mto,mt,ix,pv,cm,ok,es⟩:=m;simp only at*;obtain ⟨f,rfl⟩:∃f:Nat,mf=(f:Int):=⟨mf.toNat,by omega⟩;obtain ⟨i,rfl⟩:∃i:Nat,ix=(i:Int):=⟨ix.toNat,by omega⟩;rw [Int.toNat_natCast,Int.toNat_natCast] at hn1 hn2;have hfn:f<r.n:=by omega
 obtain ⟨W0,hW0⟩:∃W0,W0=w.alloc (.cells (cZ kd f mto mt i pv cm ok v) TMs):=⟨_,rfl⟩;have hf0:Fr No w W0:=by rw [hW0];exact aj _ _
 obtain ⟨g,hg⟩:∃g,g=w.heap.size:=⟨_,rfl⟩;have hb:Blk W0 g TMs (cZ kd f mto mt i pv cm ok v):=by rw [hW0,hg];exact Blk.new _ _ _
 have hgF:¬F g:=fun hh=>by have:=hFl g hh;omega
 have hC:∀W,Fr No W0 W→(W.cell? ⟨g,1,none⟩=some (.int .i64 (f:Int))∧W.cell? ⟨g,3,none⟩=some (.int .i64 mt)∧W.cell? ⟨g,4,none⟩=some (.int .i64 (i:Int))∧W.cell? ⟨g,7,none⟩=some (.bool ok)):=fun W hf=>let q:=hb.fr hf id;⟨q.cell 1,q.cell 3,q.cell 4,q.cell 7⟩;obtain ⟨⟨a0,-,a3,-⟩,-,b1,b3⟩:=hcl W0 hf0;obtain ⟨c1,c3,c4,c7⟩:=hC W0 (Fr.refl _ _);have hAA:¬(r.role≠3∨mt≠r.js.term):=fun hh=>hh.elim (fun q=>q hX1) (fun q=>q hX2);subst hX3;have hil:(i:Int)≤(r.js.log.length:Int):=hX4;clear hX1 hX2 hX4;have hr3:r.role=3:=by omega
 have u1:(r.role != 3)=false:=by simpa using hr3
 have u2:(mt != r.js.term)=false:=by simp;omega
 obtain ⟨jj,AA,cc,bx,cx,bm,cm',k1,k2,k3,k4,k5,k6,k7,k8,-,iQ⟩:=h.leads hr3;unfold maxLen at k2 k4 k6;have hfi:(f:Int)<(r.n:Int):=by omega
 have hX6:∀W,Fr No W0 W→(W.cell? ⟨p,6,none⟩=some (.slice (some ⟨bx,0,none⟩) r.n cx)∧W.cell? ⟨p,7,none⟩=some (.slice (some ⟨bm,0,none⟩) r.n cm')∧W.cell? ⟨bx,f,none⟩=some (.int .i64 (r.next f:Int))∧W.cell? ⟨bm,f,none⟩=some (.int .i64 (r.cO f:Int))):=fun W hf=>by
  obtain ⟨⟨-,-,-,-,y6,y7⟩,-,z⟩:=iQ W (hf0.ah hf);exact ⟨y6,y7,(z f hfn).1,(z f hfn).2⟩
 have hnx:=hok.nxt hr3 f;have hmx:=hok.mts hr3 f;have hov:=hn2 hAA dcd hil;have t1:decide ((i:Int)≤(r.js.log.length:Int))=true:=decide_eq_true hil;have t2:decide (i≤r.js.log.length)=true:=dtt;have hxv:(if r.cO f<i then (i:Int) else (r.cO f:Int))=((max (r.cO f) i:Nat):Int):=by split<;>omega
 obtain ⟨mx,ap2⟩:∃mx,mx=max (r.cO f) i:=⟨_,rfl⟩;have ap1:mx≤r.js.log.length:=by omega
 rw [←ap2] at hxv hov;have hb3:∀W,Fr No W0 W→(W.cell? ⟨p,0,none⟩=some (.pointer (some ⟨j,0,none⟩))∧W.cell? ⟨j,3,none⟩=some (.slice A r.js.log.length c)):=fun W hf=>let ⟨⟨y0,_⟩,_,_,y3⟩:=hcl W (hf0.ah hf);⟨y0,y3⟩;obtain ⟨r1,hr1⟩:∃r1:Rs,r1={r with cO:=setAt r.cO f mx}:=⟨_,rfl⟩;obtain ⟨r2,hr2⟩:∃r2:Rs,r2={r1 with next:=setAt r1.next f mx}:=⟨_,rfl⟩;have zn:r.aR ⟨kd,(f:Int),mto,mt,(i:Int),pv,cm,true,es⟩=(r2.advance,[]):=by rw [hov,hr2,hr1]
 have an2:r1.role=3:=by rw [hr1];exact hr3
 have apv:r2.role=3:=by rw [hr2];exact an2
 have apw:r1.n=r.n:=by rw [hr1]
 have arf:mx≤r1.js.log.length:=by rw [hr1];exact ap1
 have apx:r1.cO f=mx:=by rw [hr1];simp [setAt]
 have hst:∀W,Fr No W0 W→W.frozen? ⟨bm,f,none⟩=false∧F bm∧bY W F p r1 n (W.setCell ⟨bm,f,none⟩ (.int .i64 (mx:Int))):=fun W hf=>by
  rw [hr1];exact (h.ak (hf0.ah hf)).akj hr3 (hX6 W hf).2.1 hfn ap1
 have hg2:∀V b',Fr No W0 V→F b'→∀W,W=(V.setCell ⟨b',f,none⟩ (.int .i64 (mx:Int))).drew→Blk W g TMs (cZ kd f mto mt i pv cm true v):=fun V b' hf hF W he=>by
  rw [he];exact (hb.fr hf id).fr (((Fr.refl (fun k=>k=b') V).setCell (p:=⟨b',f,none⟩) (.inl rfl) _).drew) fun e=>hgF (e▸hF)
 clear h hok hm hcl hno hn1 hn2 hn3 hAA iQ k7 k8 ap2 hov hr1;obtain ⟨HXV,ahv,HST,aqx,asn,aox,aso,HR2,HW0,HG,HF0,HC⟩:=gY hxv zn hst an2 apv apw apx hr2 hW0 hg hf0 hC;obtain ⟨HX6,HB3,HG2,HB⟩:=fK hX6 hb3 hg2 hb;clear hxv zn hst an2 apv apw apx hr2 hW0 hg hf0 hC hX6 hb3 hg2 hb
 go_in
 go_upto_region 1 with fail
 rw [←HW0.out,←HG.out]
 go_wp2_with fail
 go_quiet (fail)
 have K1:=O ((Fr.refl No W0).drewN nq);clear a0 a3 b1 b3 c1 c3 c4 c7;generalize W0.drewN nq=W1 at*;obtain ⟨c1,c3,c4,c7⟩:=HC.out _ K1.out;obtain ⟨a0,b3⟩:=HB3.out _ K1.out
 go_wp2_with fail
 go_quiet (fail)
 have K2:=O (K1.out.drewN nq);clear a0 b3 c1 c3 c4 c7;generalize W1.drewN nq=W2 at*;obtain ⟨c1,c3,c4,c7⟩:=HC.out _ K2.out;obtain ⟨x6,x7,x8,x9⟩:=HX6.out _ K2.out;obtain ⟨fx,hFb,t3⟩:=HST.out _ K2.out;have T3:=O t3;clear t3
 go_wp2_with fail
 go_region
 all_goals
  rw [HXV.out];obtain ⟨W3,hW3⟩:∃W3,W3=(W2.setCell ⟨bm,f,none⟩ (.int .i64 (mx:Int))).drew:=⟨_,rfl⟩;rw [←hW3];have g3:=HG2.out W2 bm K2.out hFb W3 hW3;have t4:=T3.out.quiet (Fr.refl _ _).drew;rw [←hW3] at t4;obtain ⟨F4,a4,i4,f4⟩:=t4;obtain ⟨jj2,AA2,cc2,bx2,cx2,bm2,cm2,-,-,l3,l4,l5,l6,-,-,-,hs4⟩:=a4.leads aqx.out;unfold maxLen at l4 l6;obtain ⟨⟨-,-,-,-,y6,y7⟩,-,z⟩:=hs4 W3 (Fr.refl _ _);obtain ⟨z1,z2⟩:=z f (by rw [aox.out];exact hfn);rw [aso.out] at z2;have t6' :=fun hc=>a4.ag6 (b:=bx2) (c:=cx2) aqx.out hc (f:=f) (v:=mx) (by rw [aox.out];exact hfn) arf;have t6:=t6' y6;rw [←HR2.out] at t6;rw [aox.out] at y6 y7 l3 l5;obtain ⟨q1,-,t6⟩:=t6;clear t6';have t7:=bY.after (HF0.out.ah K2.out) (bY.then f4 i4 t6);have e1:W3.cell? ⟨g,1,none⟩=some (.int .i64 (f:Int)):=g3.cell 1;clear hW3 x6 x7 x8 x9 fx c1 c3 c4 c7 hs4 z a4 i4 f4 t6 g3;obtain ⟨W5,hW5⟩:∃W5,W5=(W3.setCell ⟨bx2,f,none⟩ (.int .i64 (mx:Int))).drew:=⟨_,rfl⟩;have t9:=t7.quiet (Fr.refl _ _).drew;rw [←hW5] at t9;clear t7;obtain ⟨F5,a5,i5,f5⟩:=t9;have uS:=sH a5 asn.out;have hfin:=fun W (t:bY W5 F5 p r2.advance n W)=>aH.mk' (bY.then f5 i5 t) (fF.none_ W);clear a5 i5 f5;obtain ⟨abg,bS,HW5⟩:=bP uS hfin hW5;clear uS hfin hW5
  go_wp2_with fail
  go_still_tail 15,(by kernel_rfl)
  go_wp2_with fail
  rw [←HW5.out];refine abg.out.mono ?_;rintro e w6 ⟨rfl,t8⟩;have T:=O (bS.out _ t8);clear t8
  go_wp2_with fail
  go_ret
  rw [ahv.out];exact T.out
theorem ab1 (h:bR w F p r n)(m:Ms)(v:Value)(hm:bH r m):Calls Tryz.prog 109 #[.pointer (some ⟨p,0,none⟩),m.v v] w (aH w F p (r.aR m) n):=by
 by_cases hX:r.role=3∧m.term=r.js.term∧m.ok=true∧m.index≤r.js.log.length
 ·exact xg h m v hm hX.1 hX.2.1 hX.2.2.1 hX.2.2.2
 ·exact xk h m v hm hX
end
end
section
theorem aH.more {w w' :World}{F:Nat→Prop}{p n m:Nat}{x:Rs×List Ms}{e:Ending}(h:aH w F p x n e w')(hn:n≤m):aH w F p x m e w' :=by
 obtain ⟨A,c,F',G,h1,h2,h3,h4⟩:=h;exact ⟨A,c,F',G,h1,h2,h3.more hn,h4⟩
theorem aH.lift {w w1 w' :World}{F F1:Nat→Prop}{p n:Nat}{x:Rs×List Ms}{e:Ending}(hf:Fr F w w1)(hi:∀i,F1 i→F i∨w.heap.size≤i)(h:aH w1 F1 p x n e w'):aH w F p x n e w' :=by
 obtain ⟨A,c,F',G,h1,h2,h3,h4,h5,h6,h7⟩:=h;refine ⟨A,c,F',G,h1,h2,h3,fun i hh=> ?_,fun i hh=>Nat.le_trans hf.size (h5 i hh),h6,hf.trans h7 hi⟩
 rcases h4 i hh with q|q
 ·exact hi i q
 ·exact .inr (Nat.le_trans hf.size q)
theorem aH.after {w w1 w' :World}{F:Nat→Prop}{p n:Nat}{x:Rs×List Ms}{e:Ending}(hf:Fr No w w1)(h:aH w1 F p x n e w'):aH w F p x n e w' :=
 aH.lift (hf.mono fun _ hi=>hi.elim) (fun i hi=> .inl hi) h
theorem rP {r:Rs}{m:Ms}(h:bH r m):r.handle m=(r.meets m.term).takes m:=by
 unfold Rs.handle;rw [if_neg (by rw [Rs.cB.2 h];simp)]
theorem bR.far {w w' :World}{F:Nat→Prop}{p n g:Nat}{r:Rs}{t:TypeId}{cs:Array Value}(h:bR w F p r n)(hb:Blk w g t cs)(hg:¬F g){r' :Rs}{m:Nat}(hr:bY w F p r' m w'):Blk w' g t cs:=by
 obtain ⟨_,_,_,q⟩:=hr;exact hb.fr q hg
section
variable {w w' :World}{F G:Nat→Prop}{p:Nat}{r:Rs}{s:Js}{n:Nat}
theorem ah5 (h:bR w F p r n)(m:Ms)(A:Option Addr)(c:Nat)(hm:bH r m)(hk:m.kind=3)(ht:m.term≤r.js.term)(hE:Ent w G (.slice A m.es.length c) m.es)(hGF:∀i,G i→¬F i)(hes:∀x∈m.es,x.e.ok)(hsz:n+600000≤140737488355328):Calls Tryz.prog 108 #[.pointer (some ⟨p,0,none⟩),m.v (.slice A m.es.length c)] w (aH w F p (r.aK m) (n+600000)):=by
 have no:=fun hN=>(zT h m (.slice A m.es.length c) hm hN).mono fun e w' (q:aH w F p (r.aK m) n e w')=>q.more (show n≤n+600000 by omega)
 by_cases h1:m.term<r.js.term
 ·exact no (.inl h1)
 ·by_cases h2:r.role=3
  ·exact no (.inr (.inl h2))
  ·by_cases h3:r.fits m=true
   ·have hle:=iL r.js.log m.es m.index.toNat
    by_cases h4:aX r.js.log m.index.toNat m.es=m.es.length
    ·exact abz h m A c hm hk ht hE hGF hes h1 h2 h3 hsz h4
    ·by_cases h5:m.index.toNat+aX r.js.log m.index.toNat m.es<r.commit
     ·exact ab0 h m A c hm hk ht hE hGF hes h1 h2 h3 hsz ⟨by omega,h5⟩
     ·by_cases h6:m.index.toNat+aX r.js.log m.index.toNat m.es<r.js.log.length
      ·exact aby h m A c hm hk ht hE hGF hes h1 h2 h3 hsz ⟨by omega,h5⟩ h6
      ·exact abx h m A c hm hk ht hE hGF hes h1 h2 h3 hsz ⟨by omega,h5⟩ h6
   ·exact no (.inr (.inr (by simpa using h3)))
theorem ab2 (h:bR w F p r n)(m:Ms)(A:Option Addr)(c:Nat)(hE:Ent w G (.slice A m.es.length c) m.es)(hlen:m.es.length≤1000000):Calls Tryz.prog 105 #[.pointer (some ⟨p,0,none⟩),m.v (.slice A m.es.length c)] w fun e w' =>e= .returned (.bool (r.proper m))∧Fr No w w' :=by
 by_cases hT:((m.to_=r.id∧0≤m.from_∧m.from_<r.n∧m.from_≠r.id∧1≤m.kind∧m.kind≤4∧1≤m.term∧m.term≤1073741824∧0≤m.index∧m.index≤4096∧0≤m.prev∧m.prev≤m.term∧0≤m.commit∧m.commit≤4096)∧m.kind=3)
 ·by_cases hX:(m.prev=0↔m.index=0)∧m.index+(m.es.length:Int)≤4096
  ·exact rE h m A c hE hlen hX hT
  ·exact rF h m A c hE hlen hX hT
 ·by_cases ha:(m.to_=r.id∧0≤m.from_∧m.from_<r.n∧m.from_≠r.id)
  ·obtain ⟨a1,a2,a3,a4⟩:=ha
   by_cases hb:(1≤m.kind∧m.kind≤4∧1≤m.term)
   ·obtain ⟨b1,b2,b3⟩:=hb
    by_cases hc:(m.term≤1073741824∧0≤m.index)
    ·obtain ⟨e1,e2⟩:=hc
     by_cases hd:(m.index≤4096∧0≤m.prev)
     ·obtain ⟨d1,d2⟩:=hd
      exact xq h m _ hT a1 a2 a3 a4 b1 b2 b3 e1 e2 d1 d2
     ·exact xu h m _ hT a1 a2 a3 a4 b1 b2 b3 e1 e2 hd
    ·exact xw h m _ hT a1 a2 a3 a4 b1 b2 b3 hc
   ·exact xA h m _ hT a1 a2 a3 a4 hb
  ·exact xB h m _ hT ha
theorem vD (h:bR w F p r n)(m:Ms)(A:Option Addr)(c:Nat)(hm:bH r m)(hk:m.kind=1)(hsz:n+600000≤140737488355328):Calls Tryz.prog 106 #[.pointer (some ⟨p,0,none⟩),m.v (.slice A m.es.length c)] w (aH w F p (r.takes m) (n+600000)):=by
 have:r.takes m=r.dK m:=by unfold Rs.takes;rw [if_pos hk]
 rw [this];exact (ah4 h m _ hm oy).mono fun e w' q=>q.more oy
theorem vC (h:bR w F p r n)(m:Ms)(A:Option Addr)(c:Nat)(hm:bH r m)(hk:m.kind=2)(hsz:n+600000≤140737488355328):Calls Tryz.prog 107 #[.pointer (some ⟨p,0,none⟩),m.v (.slice A m.es.length c)] w (aH w F p (r.takes m) (n+600000)):=by
 have:r.takes m=r.bW m:=by unfold Rs.takes;rw [if_neg oy,if_pos hk]
 rw [this];exact (afk h m _ hm).mono fun e w' q=>q.more oy
theorem vB (h:bR w F p r n)(m:Ms)(A:Option Addr)(c:Nat)(hm:bH r m)(hk:m.kind=3)(ht:m.term≤r.js.term)(hE:Ent w G (.slice A m.es.length c) m.es)(hGF:∀i,G i→¬F i)(hes:∀x∈m.es,x.e.ok)(hsz:n+600000≤140737488355328):Calls Tryz.prog 108 #[.pointer (some ⟨p,0,none⟩),m.v (.slice A m.es.length c)] w (aH w F p (r.takes m) (n+600000)):=by
 have:r.takes m=r.aK m:=by unfold Rs.takes;rw [if_neg oy,if_neg oy,if_pos hk]
 rw [this];exact ah5 h m A c hm hk ht hE hGF hes hsz
theorem vw (h:bR w F p r n)(m:Ms)(A:Option Addr)(c:Nat)(hm:bH r m)(hk:m.kind=4)(hsz:n+600000≤140737488355328):Calls Tryz.prog 109 #[.pointer (some ⟨p,0,none⟩),m.v (.slice A m.es.length c)] w (aH w F p (r.takes m) (n+600000)):=by
 have:r.takes m=r.aR m:=by unfold Rs.takes;rw [if_neg oy,if_neg oy,if_neg oy]
 rw [this];exact (ab1 h m _ hm).mono fun e w' q=>q.more oy
set_option maxHeartbeats 8000000 in
theorem vE (h:bR w F p r n)(m:Ms)(A:Option Addr)(c:Nat)(hE:Ent w G (.slice A m.es.length c) m.es)(hGF:∀i,G i→¬F i)(hes:∀x∈m.es,x.e.ok)(hlen:m.es.length≤1000000)(hsz:n+700000≤140737488355328):Calls Tryz.prog 50 #[.pointer (some ⟨p,0,none⟩),m.v (.slice A m.es.length c)] w (aH w F p (r.handle m) (n+700000)):=by
 have hok:=h.ok;have hle:=h.more (m:=n+700000) oy;obtain ⟨j,A',c',-,-,-,aof⟩:=h.views;have hT:∀W,Fr No w W→W.cell? ⟨p,0,none⟩=some (.pointer (some ⟨j,0,none⟩))∧W.cell? ⟨j,1,none⟩=some (.int .i64 r.js.term):=fun W hf=>⟨(aof W hf).1.1,(aof W hf).2.2.1⟩;clear aof;have hstill:=fun W (hf:Fr No w W)=>hle.still hf;have jZ:=fun W (hf:Fr No w W)=>ab2 (h.ak hf) m A c (hE.ak hf) hlen;obtain ⟨W0,hW0⟩:∃W0,W0=w.alloc (.cells (m.cells (.slice A m.es.length c)).toArray TMs):=⟨_,rfl⟩;have hf0:Fr No w W0:=by rw [hW0];exact aj _ _
 obtain ⟨g,hg⟩:∃g,g=w.heap.size:=⟨_,rfl⟩;have hb:Blk W0 g TMs (m.cells (.slice A m.es.length c)).toArray:=by rw [hW0,hg];exact Blk.new _ _ _
 have ap8:=hb.lt;have hgF:¬F g:=fun hh=>by have:=h.lt g hh;omega
 have hgp:g≠p:=fun hh=>hgF (hh▸h.lC);have hC:=fun W (hf:Fr No W0 W)=>aL (m:=m) (hb.fr hf id)
 by_cases hp:r.proper m=true
 ·have hm:=Rs.cB.1 hp
  rw [hp] at jZ;rw [rP hm]
  by_cases hlt:r.js.term<m.term
  ·have hmt:r.meets m.term={r with js:=⟨m.term,-1,r.js.log⟩,role:=1}:=by unfold Rs.meets;rw [if_pos hlt]
   have hm1:=hm.kQ m.term;have ht1:=(iG r m.term).1;rw [hmt] at hm1 ht1 ⊢;obtain ⟨-,sj⟩:=fG r.js m.term (-1) (by have:=hm.t0;omega) hm.t1 oy oy (.inl hlt);have alk:bU {r with js:=bC r.js m.term (-1)}:=by
    rw [sj];exact ⟨hok.log.up (by simp only;omega),by simp only;have:=hok.lo;omega,hm.t1,Int.le_refl _,by simp only;omega,hok.idn,hok.five,hok.role,hok.com,hok.vts,hok.nxt,hok.mts⟩
   have jD:=fun W (hf:Fr No w W)=>wZ (h.ak hf) m.term (-1) alk oy;rw [sj] at jD;have aaq:=fun V r' N V' (hf:Fr No W0 V) (hr:bY V F p r' N V')=>bR.far (h.ak (hf0.ah hf)) (hb.fr hf id) hgF hr;have hEn:=fun V r' N V' (hf:Fr No W0 V) (hr:bY V F p r' N V')=>((hE.lt.ak (hf0.ah hf)).fr (let ⟨_,_,_,q⟩:=hr;q) fun k hk hh=>hGF k hk.1 hh:Ent V' (fun i=>G i∧i<w.heap.size) (.slice A m.es.length c) m.es);have u1:decide (r.js.term<m.term)=true:=by simpa using hlt
   generalize hTT:r.js.term=tt at*;have hpk:=hm.k
   rcases hpk with hk|hk|hk|hk
   all_goals
    first|have htk:=fun V F1 N (ha:bR V F1 p {r with js:=⟨m.term,-1,r.js.log⟩,role:=1} N) (hN:N+600000≤140737488355328) (hE2:Ent V (fun i=>G i∧i<w.heap.size) (.slice A m.es.length c) m.es) (hG2:∀i,(G i∧i<w.heap.size)→¬F1 i)=>vB ha m A c hm1 hk ht1 (hE2) hG2 hes hN|have htk:=fun V F1 N (ha:bR V F1 p {r with js:=⟨m.term,-1,r.js.log⟩,role:=1} N) (hN:N+600000≤140737488355328)=>vD ha m A c hm1 hk hN|have htk:=fun V F1 N (ha:bR V F1 p {r with js:=⟨m.term,-1,r.js.log⟩,role:=1} N) (hN:N+600000≤140737488355328)=>vC ha m A c hm1 hk hN|have htk:=fun V F1 N (ha:bR V F1 p {r with js:=⟨m.term,-1,r.js.log⟩,role:=1} N) (hN:N+600000≤140737488355328)=>vw ha m A c hm1 hk hN
    have hfin:=fun V W F1 e W' N (hfw:Fr No w V) (hf:Fr F V W) (hi:∀i,F1 i→F i∨V.heap.size≤i) (hN:N≤n+700000) (q:aH W F1 p (({r with js:=⟨m.term,-1,r.js.log⟩,role:=1}:Rs).takes m) N e W')=>(aH.after hfw (aH.lift (F1:=F1) hf hi (q.more hN)):aH w F p (({r with js:=⟨m.term,-1,r.js.log⟩,role:=1}:Rs).takes m) (n+700000) e W');generalize hTK:({r with js:=⟨m.term,-1,r.js.log⟩,role:=1}:Rs).takes m=TK at*;obtain ⟨kd,mf,mto,mt,ix,pv,cm,ok,es⟩:=m;simp only [Ms.cells] at hW0 hC aaq;simp only at*;subst hk;obtain ⟨c0,c1,c2,c3,c4,c5,c6,c7,c8⟩:=hC _ (Fr.refl _ _);clear h hok hle hb hp hm hmt hm1 ht1 alk sj hlt hstill hE hTT hTK;have sZ:∀(F1:Nat→Prop) (V:World),Fr No w V→(∀i,F1 i→F i∨V.heap.size≤i)→∀i,(G i∧i<w.heap.size)→¬F1 i:=fun F1 V hf hi i hG hh=>by
     rcases hi i hh with q|q
     ·exact hGF i hG.1 q
     ·have:=hf.size;omega
    have hgN:∀(F1:Nat→Prop) (V:World),Fr No W0 V→(∀i,F1 i→F i∨V.heap.size≤i)→¬F1 g:=fun F1 V hf hi hh=>by
     rcases hi g hh with q|q
     ·exact hgF q
     ·have:=hf.size;omega
    obtain ⟨HT,qZ,HW0,HF0,HG,HC,lW,ag2,HEN,HTK,bS,aex⟩:=gY hT jZ hW0 hf0 hg hC jD aaq hEn htk hfin sZ;obtain ⟨HGN,HES⟩:=aO hgN hes;clear hT jZ hW0 hf0 hg hC jD aaq hEn htk hfin sZ hgN hes
    go_in
    go_wp2_with fail
    rw [←HG.out,←HW0.out];refine (qZ.out _ HF0.out).mono ?_;rintro e w1 ⟨rfl,f1⟩;clear c0 c1 c2 c3 c4 c5 c6 c7 c8;obtain ⟨c0,c1,c2,c3,c4,c5,c6,c7,c8⟩:=HC.out _ f1;obtain ⟨p0,j1⟩:=HT.out _ (HF0.out.ah f1);have K1:=O f1;clear f1
    go_wp2_with fail
    go_quiet (fail)
    replace K1:=O (K1.out.drewN nq);generalize w1.drewN nq=w2 at*;clear p0 j1;clear c0 c1 c2 c3 c4 c5 c6 c7 c8;obtain ⟨c0,c1,c2,c3,c4,c5,c6,c7,c8⟩:=HC.out _ K1.out
    go_wp2_with fail
    refine (lW.out _ (HF0.out.ah K1.out)).mono ?_;rintro e w3 ⟨rfl,t3⟩;have hb3:=ag2.out _ _ _ _ K1.out t3;have hE3:=HEN.out _ _ _ _ K1.out t3;obtain ⟨F3,a3,i3,f3⟩:=t3;have p3:w3.cell? ⟨p,3,none⟩=some (.int .i64 r.role)∧w3.frozen? ⟨p,3,none⟩=false:=(let ⟨_,_,_,_,_,_,_,_,h1,_⟩:=a3;⟨h1.cell 3,h1.frozen 3⟩);obtain ⟨p3,pf3⟩:=p3;obtain ⟨F4,a4,i4,f4⟩:=a3.lQ;simp only at a4;have hb4:Blk (w3.setCell ⟨p,3,none⟩ (.int .i64 1)) g TMs _:=hb3.aF hgp _;have hE4:Ent (w3.setCell ⟨p,3,none⟩ (.int .i64 1)) _ _ _:=hE3.fr f4 fun k hk hh=>aex.out F3 w2 (HF0.out.ah K1.out) i3 k hk hh;have hi4:∀i,F4 i→F i∨w2.heap.size≤i:=fun i hi=>by
     rcases i4 i hi with q|q
     ·exact i3 i q
     ·exact .inr (Nat.le_trans f3.size q)
    have hf4:Fr F w2 (w3.setCell ⟨p,3,none⟩ (.int .i64 1)):=f3.trans f4 i3;have hG4:=aex.out F4 w2 (HF0.out.ah K1.out) hi4
    first|have hcall:=HTK.out _ _ _ a4 oy hE4 hG4|have hcall:=HTK.out _ _ _ a4 oy
    have adx:=fun e W' q=>bS.out w2 _ F4 e W' (n+48+600000) (HF0.out.ah K1.out) hf4 hi4 oy q;clear a4 i4 f4 i3 f3 hb3 hE3 hE4 hi4 hf4 hG4 a3;clear c0 c1 c2 c3 c4 c5 c6 c7 c8
    first|obtain ⟨c0,c1,c2,c3,c4,c5,c6,c7,c8⟩:=aL (m:=⟨1,mf,mto,mt,ix,pv,cm,ok,es⟩) hb4|obtain ⟨c0,c1,c2,c3,c4,c5,c6,c7,c8⟩:=aL (m:=⟨2,mf,mto,mt,ix,pv,cm,ok,es⟩) hb4|obtain ⟨c0,c1,c2,c3,c4,c5,c6,c7,c8⟩:=aL (m:=⟨3,mf,mto,mt,ix,pv,cm,ok,es⟩) hb4|obtain ⟨c0,c1,c2,c3,c4,c5,c6,c7,c8⟩:=aL (m:=⟨4,mf,mto,mt,ix,pv,cm,ok,es⟩) hb4
    simp only at c0 c1 c2 c3 c4 c5 c6 c7 c8;obtain ⟨dL,ajz,HB4⟩:=bP hcall adx hb4;clear hcall adx hb4
    go_wp2_with fail
    refine dL.out.mono ?_;rintro e w5 q5;have M5:=O (ajz.out _ _ q5);obtain ⟨A5,c5',F5,G5,rfl,-⟩:=q5
    go_wp2_with fail
    go_ret
    exact M5.out
  ·have hmt:r.meets m.term=r:=by unfold Rs.meets;rw [if_neg hlt]
   have ht1:=(iG r m.term).1;rw [hmt] at ht1 ⊢;have u1:decide (r.js.term<m.term)=false:=by simpa using hlt
   have hpk:=hm.k
   rcases hpk with hk|hk|hk|hk
   all_goals
    first|have htk:=fun V (hf:Fr No w V)=>(vB (h.ak hf) m A c hm hk ht1 (hE.ak hf) hGF hes oy).mono fun e w' q=>(aH.after hf (q.more oy):aH w F p (r.takes m) (n+700000) e w')|have htk:=fun V (hf:Fr No w V)=>(vD (h.ak hf) m A c hm hk oy).mono fun e w' q=>(aH.after hf (q.more oy):aH w F p (r.takes m) (n+700000) e w')|have htk:=fun V (hf:Fr No w V)=>(vC (h.ak hf) m A c hm hk oy).mono fun e w' q=>(aH.after hf (q.more oy):aH w F p (r.takes m) (n+700000) e w')|have htk:=fun V (hf:Fr No w V)=>(vw (h.ak hf) m A c hm hk oy).mono fun e w' q=>(aH.after hf (q.more oy):aH w F p (r.takes m) (n+700000) e w')
    generalize r.takes m=TK at*;generalize r.js.term=tt at*;obtain ⟨kd,mf,mto,mt,ix,pv,cm,ok,es⟩:=m;simp only [Ms.cells] at hW0 hC;simp only at*;subst hk;obtain ⟨c0,c1,c2,c3,c4,c5,c6,c7,c8⟩:=hC _ (Fr.refl _ _);clear h hok hle hb hp hm hmt ht1 hlt hstill hE hGF hes hgF;obtain ⟨HT,qZ,HW0,HF0,HG,HC,HTK⟩:=nC hT jZ hW0 hf0 hg hC htk;clear hT jZ hW0 hf0 hg hC htk
    go_in
    go_wp2_with fail
    rw [←HG.out,←HW0.out];refine (qZ.out _ HF0.out).mono ?_;rintro e w1 ⟨rfl,f1⟩;clear c0 c1 c2 c3 c4 c5 c6 c7 c8;obtain ⟨c0,c1,c2,c3,c4,c5,c6,c7,c8⟩:=HC.out _ f1;obtain ⟨p0,j1⟩:=HT.out _ (HF0.out.ah f1);have K1:=O f1;clear f1
    go_wp2_with fail
    go_quiet (fail)
    replace K1:=O (K1.out.drewN nq);generalize w1.drewN nq=w2 at*;clear p0 j1;clear c0 c1 c2 c3 c4 c5 c6 c7 c8;obtain ⟨c0,c1,c2,c3,c4,c5,c6,c7,c8⟩:=HC.out _ K1.out
    go_wp2_with fail
    refine (HTK.out _ (HF0.out.ah K1.out)).mono ?_;rintro e w5 q5;have M5:=O q5;obtain ⟨A5,c5',F5,G5,rfl,-⟩:=q5
    go_wp2_with fail
    go_ret
    exact M5.out
 ·have hp2:r.proper m=false:=by simpa using hp
  have hh:r.handle m=(r,[]):=by unfold Rs.handle;rw [if_pos hp2]
  rw [hp2] at jZ;rw [hh];obtain ⟨c0,c1,c2,c3,c4,c5,c6,c7,c8⟩:=hC _ (Fr.refl _ _);clear hE hC hb hh hp hp2 hok hT h hle hgF;obtain ⟨kd,mf,mto,mt,ix,pv,cm,ok,es⟩:=m;simp only [Ms.cells] at hW0;simp only at*;obtain ⟨bZ,qZ,HW0,HF0,HG⟩:=jr hstill jZ hW0 hf0 hg;clear hstill jZ hW0 hf0 hg
  go_in
  go_wp2_with fail
  rw [←HG.out,←HW0.out];refine (qZ.out _ HF0.out).mono ?_;rintro e w1 ⟨rfl,f1⟩;have F1:=O f1;clear f1
  go_wp2_with fail
  go_ret
  exact aH.mk' (bZ.out _ (HF0.out.ah F1.out)) (fF.none_ _)
end
end
end Go.Proofs.YtjnfmfmglehmbaaGreat
