/-
  The reference's replica: its rows are written into; a vote is counted.
-/
import Derived.Test.YtjnfmfmglehmbaaGreatQ35
namespace Go.Proofs.YtjnfmfmglehmbaaGreat
open Go.ChangeShapes Go.WideShapes Go.ChangeAt Go.RowKit
set_option linter.unusedVariables false
set_option maxRecDepth 100000
set_option maxHeartbeats 4000000
theorem aay (v n k:Nat):(jc v n).set k (.bool true)=jc (v |||2 ^ k) n:=by
 have h:=wG v n k;rw [List.setIfInBounds_toArray] at h;exact congrArg Array.toList h
theorem sQ (f:Nat→Nat)(n k v:Nat):(dN f n).set k (.int .i64 (v:Int))=dN (setAt f k v) n:=by
 unfold dN
 apply List.ext_getElem
 ·simp
 ·intro i h1 h2
  rw [List.getElem_set];simp only [List.getElem_map,List.getElem_range,setAt]
  by_cases h:k=i
  ·subst h;simp
  ·rw [if_neg h,if_neg fun e=>h e.symm]
theorem Own.uq {w:World}{F G:Nat→Prop}{e e' :TypeId}{v v' :Value}{xs ys:List Value}(h:Own w F e v xs)(h' :Own w G e' v' ys)(hne:e≠e'):∀g,v.ownBlock=some g→v'.ownBlock≠some g:=by
 intro g hg
 rcases h'.1.2 with ⟨rfl,_⟩|⟨g',cap,cur,rfl,_,hh,_⟩
 ·exact fun h=>by cases h
 ·intro hk
  have hgg:g' =g:=by simpa [Value.ownBlock] using hk
  subst hgg;exact h.fT (g:=g') (t:=e') (cs:=cur) hh hne g' hg rfl
theorem sO {w:World}{F:Nat→Prop}{e:TypeId}{b n c k:Nat}{xs:List Value}(h:Own w F e (.slice (some ⟨b,0,none⟩) n c) xs)(hk:k<xs.length):w.cell? ⟨b,k,none⟩=some xs[k]∧w.frozen? ⟨b,k,none⟩=false:=by
 obtain ⟨b',c',e1,-,-,-,-,hrow⟩:=h.row oy;injection e1 with e1;injection e1 with e1;injection e1 with e1;subst e1;exact hrow w (Fr.refl _ _) k _ (List.getElem?_eq_getElem hk)
section
variable {w w' w1:World}{F G Fj F' :Nat→Prop}{p:Nat}{r r' :Rs}{n m:Nat}{V X M V' X' M' :Value}{bs xs ms bs' xs' ms' :List Value}
theorem bR.ag7 (h:bR w F p r n)(hr:r.role=2){f:Nat}(hf:f<r.n)(hok:bU {r with aY:=r.aY |||2 ^ f}):∃b c,w.cell? ⟨p,5,none⟩=some (.slice (some ⟨b,0,none⟩) r.n c)∧r.n≤c∧c≤maxLen∧w.cell? ⟨b,f,none⟩=some (.bool (r.aY.testBit f))∧w.frozen? ⟨b,f,none⟩=false∧F b∧
  bY w F p {r with aY:=r.aY |||2 ^ f} n (w.setCell ⟨b,f,none⟩ (.bool true)):=by
 obtain ⟨j,Fj,V,X,M,bs,xs,ms,h1,h2,h3,h4,h5,h6,h7,h8⟩:=h;have e1:=h7.sv hr;have ov:=h7.ov;rw [e1] at ov;obtain ⟨b,c,rfl,x1,x2,hFb,hbl,x3⟩:=ov.row (by rw [jo];omega);rw [jo] at x1 ov h7 h1;have hne:=ov.fT h1 dcd b rfl;have hfr:Fr (fun i=>i=b) w (w.setCell ⟨b,f,none⟩ (.bool true)):=(Fr.refl (fun i=>i=b) w).setCell (p:=⟨b,f,none⟩) (.inl rfl) _;obtain ⟨o1,-⟩:=nM ov f (.bool true);rw [aay] at o1;refine ⟨b,c,h1.cell 5,x1,x2,(x3 w (Fr.refl _ _) f _ (ni hf)).1,(x3 w (Fr.refl _ _) f _ (ni hf)).2,hFb,?_⟩;exact bR.put (r:=r) (F' :=F) h3 h4 h5 hfr (fun i hi e=>h7.av b rfl (e▸hi)) (fun i hi=>hi▸hFb) (h1.fr hfr fun e=>hne e.symm) h2 rfl
  ⟨o1,h7.ox.fr' hfr fun q hq e=>ov.uq h7.ox dcd b rfl (e▸hq),h7.om.fr' hfr fun q hq e=>ov.uq h7.om dcd b rfl (e▸hq),h7.av,h7.ax,h7.am,h7.xm,(fun _=>rfl),(fun hh=>by simp only at hh;omega),⟨tJ _ h8.five,h7.one.2⟩⟩
  h6 (fun i hi=>hi) (fun i hi=> .inl hi) (fun i hi=>nll (h6 i hi) hfr.size) hok
theorem bR.ag6 (h:bR w F p r n)(hr:r.role=3){b c:Nat}(hc:w.cell? ⟨p,6,none⟩=some (.slice (some ⟨b,0,none⟩) r.n c)){f:Nat}(hf:f<r.n){v:Nat}(hv:v≤r.js.log.length):
  w.frozen? ⟨b,f,none⟩=false∧F b∧bY w F p {r with next:=setAt r.next f v} n (w.setCell ⟨b,f,none⟩ (.int .i64 (v:Int))):=by
 obtain ⟨j,Fj,V,X,M,bs,xs,ms,h1,h2,h3,h4,h5,h6,h7,h8⟩:=h;have hX:X= .slice (some ⟨b,0,none⟩) r.n c:=by
  have:=h1.cell 6;rw [hc] at this;injection this with this;exact this.symm
 subst hX;obtain ⟨e1,e2⟩:=h7.sx hr;have ox:=h7.ox;rw [e1] at ox;have hFb:F b:=ox.2 b rfl;have hne:=ox.fT h1 dcd b rfl;have hfr:Fr (fun i=>i=b) w (w.setCell ⟨b,f,none⟩ (.int .i64 (v:Int))):=(Fr.refl (fun i=>i=b) w).setCell (p:=⟨b,f,none⟩) (.inl rfl) _;obtain ⟨o1,-⟩:=nM ox f (.int .i64 (v:Int));rw [sQ] at o1;refine ⟨(sO ox (k:=f) (by rw [fU];exact hf)).2,hFb,?_⟩;exact bR.put (r:=r) (F' :=F) h3 h4 h5 hfr (fun i hi e=>h7.ax b rfl (e▸hi)) (fun i hi=>hi▸hFb) (h1.fr hfr fun e=>hne e.symm) h2 rfl
  ⟨h7.ov.fr' hfr fun q hq e=>ox.uq h7.ov dcd b rfl (e▸hq),o1,h7.om.fr' hfr fun q hq e=>h7.xm b rfl (e▸hq),h7.av,h7.ax,h7.am,h7.xm,(fun hh=>by simp only at hh;omega),(fun _=>⟨rfl,e2⟩),⟨h7.one.1,kS _ h8.five,h7.one.2.2⟩⟩
  h6 (fun i hi=>hi) (fun i hi=> .inl hi) (fun i hi=>nll (h6 i hi) hfr.size)
  ⟨h8.log,h8.lo,h8.hi,h8.vlo,h8.vhi,h8.idn,h8.five,h8.role,h8.com,h8.vts,(fun hh i=>by simp only [setAt];split;exact hv;exact h8.nxt hr i),h8.mts⟩
theorem bR.akj (h:bR w F p r n)(hr:r.role=3){b c:Nat}(hc:w.cell? ⟨p,7,none⟩=some (.slice (some ⟨b,0,none⟩) r.n c)){f:Nat}(hf:f<r.n){v:Nat}(hv:v≤r.js.log.length):
  w.frozen? ⟨b,f,none⟩=false∧F b∧bY w F p {r with cO:=setAt r.cO f v} n (w.setCell ⟨b,f,none⟩ (.int .i64 (v:Int))):=by
 obtain ⟨j,Fj,V,X,M,bs,xs,ms,h1,h2,h3,h4,h5,h6,h7,h8⟩:=h;have hX:M= .slice (some ⟨b,0,none⟩) r.n c:=by
  have:=h1.cell 7;rw [hc] at this;injection this with this;exact this.symm
 subst hX;obtain ⟨e1,e2⟩:=h7.sx hr;have ox:=h7.om;rw [e2] at ox;have hFb:F b:=ox.2 b rfl;have hne:=ox.fT h1 dcd b rfl;have hfr:Fr (fun i=>i=b) w (w.setCell ⟨b,f,none⟩ (.int .i64 (v:Int))):=(Fr.refl (fun i=>i=b) w).setCell (p:=⟨b,f,none⟩) (.inl rfl) _;obtain ⟨o1,-⟩:=nM ox f (.int .i64 (v:Int));rw [sQ] at o1;refine ⟨(sO ox (k:=f) (by rw [fU];exact hf)).2,hFb,?_⟩;exact bR.put (r:=r) (F' :=F) h3 h4 h5 hfr (fun i hi e=>h7.am b rfl (e▸hi)) (fun i hi=>hi▸hFb) (h1.fr hfr fun e=>hne e.symm) h2 rfl
  ⟨h7.ov.fr' hfr fun q hq e=>ox.uq h7.ov dcd b rfl (e▸hq),h7.ox.fr' hfr fun q hq e=>h7.xm q hq (by rw [e];rfl),o1,h7.av,h7.ax,h7.am,h7.xm,(fun hh=>by simp only at hh;omega),(fun _=>⟨e1,rfl⟩),⟨h7.one.1,h7.one.2.1,kS _ h8.five⟩⟩
  h6 (fun i hi=>hi) (fun i hi=> .inl hi) (fun i hi=>nll (h6 i hi) hfr.size)
  ⟨h8.log,h8.lo,h8.hi,h8.vlo,h8.vhi,h8.idn,h8.five,h8.role,h8.com,h8.vts,h8.nxt,(fun hh i=>by simp only [setAt];split;exact hv;exact h8.mts hr i)⟩
set_option maxHeartbeats 16000000 in
theorem afk (h:bR w F p r n)(m:Ms)(v:Value)(hm:bH r m):Calls Tryz.prog 107 #[.pointer (some ⟨p,0,none⟩),m.v v] w (aH w F p (r.bW m) n):=by
 have hok:=h.ok;have ae5:=hok.zO hm;have ake:=hm.f0;have akd:=hm.f1;have h5n:=hok.five;have hFl:=h.lt;obtain ⟨j,A,c,V,X,M,hpl,hc1,hc2,iQ⟩:=h.sees;have hA:(r.role≠2∨m.term≠r.js.term∨m.ok=false)→r.bW m=(r,[]):=fun hh=>by unfold Rs.bW;rw [if_pos hh]
 have hB:¬(r.role≠2∨m.term≠r.js.term∨m.ok=false)→2*lS (r.aY |||2 ^ m.from_.toNat) r.n≤r.n→r.bW m=({r with aY:=r.aY |||2 ^ m.from_.toNat},[]):=fun hh h2=>by unfold Rs.bW;rw [if_neg hh,if_pos h2]
 have hC:¬(r.role≠2∨m.term≠r.js.term∨m.ok=false)→¬2*lS (r.aY |||2 ^ m.from_.toNat) r.n≤r.n→r.bW m=(({r with aY:=r.aY |||2 ^ m.from_.toNat}:Rs).lead,({r with aY:=r.aY |||2 ^ m.from_.toNat}:Rs).lead.gF):=fun hh h2=>by unfold Rs.bW;rw [if_neg hh,if_neg h2]
 obtain ⟨kd,mf,mto,mt,ix,pv,cm,ok,es⟩:=m;simp only at*;obtain ⟨f,rfl⟩:∃f:Nat,mf=(f:Int):=⟨mf.toNat,by omega⟩;rw [Int.toNat_natCast] at hB hC ae5;have hfn:f<r.n:=by omega
 obtain ⟨W0,hW0⟩:∃W0,W0=w.alloc (.cells (cZ kd f mto mt ix pv cm ok v) TMs):=⟨_,rfl⟩;have hf0:Fr No w W0:=by rw [hW0];exact aj _ _
 obtain ⟨g,hg⟩:∃g,g=w.heap.size:=⟨_,rfl⟩;have hb:Blk W0 g TMs (cZ kd f mto mt ix pv cm ok v):=by rw [hW0,hg];exact Blk.new _ _ _
 have c1:W0.cell? ⟨g,1,none⟩=some (.int .i64 (f:Int)):=hb.cell 1;have c3:W0.cell? ⟨g,3,none⟩=some (.int .i64 mt):=hb.cell 3;have c7:W0.cell? ⟨g,7,none⟩=some (.bool ok):=hb.cell 7;obtain ⟨⟨a0,-,a2,a3,-⟩,b1,-⟩:=iQ W0 hf0;have hq:=fun W (hf:Fr No W0 W)=>h.ak (hf0.ah hf)
 by_cases hAA:r.role≠2∨mt≠r.js.term∨ok=false
 ·have hcase:((r.role != 2)=true)∨((r.role != 2)=false∧(mt != r.js.term)=true)∨((r.role != 2)=false∧(mt != r.js.term)=false∧ok=false):=by
   by_cases e1:r.role=2
   ·by_cases e2:mt=r.js.term
    ·rcases hAA with e3|e3|e3
     ·exact absurd e1 e3
     ·exact absurd e2 e3
     ·exact .inr (.inr ⟨by simpa using e1,by simpa using e2,e3⟩)
    ·exact .inr (.inl ⟨by simpa using e1,by simpa using e2⟩)
   ·exact .inl (by simpa using e1)
  rw [hA hAA];have hfin:=fun W (hf:Fr No W0 W)=>aH.mk' (bY.quiet (h.still hf0) hf) (fF.none_ W);clear h hok ae5 hm iQ hA hB hC hb hAA hq;obtain ⟨bS,HW0,HG,uP⟩:=fK hfin hW0 hg hcase;clear hfin hW0 hg hcase
  go_in
  go_upto_region 1 with fail
  rw [←HW0.out,←HG.out]
  rcases uP.out with u1|⟨u1,u2⟩|⟨u1,u2,u3⟩
  all_goals
   clear uP
   go_wp2_with fail
   go_quiet (fail)
   go_wp2_with fail
   go_ret
   exact bS.out _ ((Fr.refl _ _).drewN _)
 have u1:(r.role != 2)=false:=by simp;omega
 have u2:(mt != r.js.term)=false:=by simp;omega
 have hok1:ok=true:=by cases ok<;>simp_all
 subst hok1;have hr2:r.role=2:=by omega
 have hB:=hB hAA;have hC:=hC hAA;obtain ⟨bv,cv,v1,v2,v3,-⟩:=h.ag7 hr2 hfn ae5;have hsv:∀W,Fr No W0 W→(W.cell? ⟨p,5,none⟩=some (.slice (some ⟨bv,0,none⟩) r.n cv)∧W.cell? ⟨bv,f,none⟩=some (.bool (r.aY.testBit f))∧W.frozen? ⟨bv,f,none⟩=false∧bY w F p {r with aY:=r.aY |||2 ^ f} n (W.setCell ⟨bv,f,none⟩ (.bool true))):=fun W hf=>by
  obtain ⟨b',c',w1,w2,w3,w4,w5,w6,w7⟩:=(hq W hf).ag7 hr2 hfn ae5;have hcell:=(((iQ W (hf0.ah hf)).1.2.2.2.2.2.1).symm.trans w1);have hcell0:=(((iQ w (Fr.refl _ _)).1.2.2.2.2.2.1).symm.trans v1);rw [hcell] at hcell0;injection hcell0 with hcell0;injection hcell0 with x1 x2 x3;injection x1 with x1;injection x1 with x1;subst x1 x3;exact ⟨w1,w4,w5,bY.after (hf0.ah hf) w7⟩
 unfold maxLen at v3;have hfi:(f:Int)<(r.n:Int):=by omega
 have hC1:∀W,Fr No W0 W→W.cell? ⟨g,1,none⟩=some (.int .i64 (f:Int)):=fun W hf=>(hb.fr hf id).cell 1;clear h hok ae5 hm iQ hA hb hAA hq v1;obtain ⟨HSV,HW0,HG,HB,HC,HC1⟩:=lG hsv hW0 hg hB hC hC1;clear hsv hW0 hg hB hC hC1
 go_in
 go_upto_region 1 with fail
 rw [←HW0.out,←HG.out]
 go_wp2_with fail
 go_quiet (fail)
 have K1:=O ((Fr.refl No W0).drewN nq);clear a0 a2 a3 b1 c1 c3 c7;generalize W0.drewN nq=W1 at*;obtain ⟨s1,s2,s3,s4⟩:=HSV.out _ K1.out;have c1:=HC1.out _ K1.out;have S4:=O s4;clear s4
 go_wp2_with fail
 go_region
 all_goals
  obtain ⟨W2,hW2⟩:∃W2,W2=(W1.setCell ⟨bv,f,none⟩ (.bool true)).drew:=⟨_,rfl⟩;rw [←hW2];have t2:=S4.out.quiet (Fr.refl _ _).drew;rw [←hW2] at t2;clear hW2 s1 s2 s3 c1 HSV S4 HC1;obtain ⟨F2,a2,i2,f2⟩:=t2;obtain ⟨j2,A2,c2',V2,X2,M2,-,-,-,hs2⟩:=a2.sees;have hS:∀W,Fr No W2 W→W.cell? ⟨p,2,none⟩=some (.int .i64 (r.n:Int)):=fun W hf=>(hs2 W hf).1.2.2.1;have hct:=fun W (hf:Fr No W2 W)=>afl (a2.ak hf) hr2;have hst:=fun W (hf:Fr No W2 W)=>bY.quiet (⟨F2,a2,i2,f2⟩:bY w F p {r with aY:=r.aY |||2 ^ f} n W2) hf;have hld:=fun W (hf:Fr No W2 W)=>ab4 (a2.ak hf);have hcv:lS (r.aY |||2 ^ f) r.n≤r.n:=by
   have:∀v k,lS v k≤k:=fun v k=>by
    induction k with
    |zero=>exact Nat.le_refl _
    |succ k ih=>simp only [lS];split<;>omega
   exact this _ _
  change ∀W,Fr No W2 W→Calls _ _ _ W (fun e w' =>e= .returned (.int .i64 (lS (r.aY |||2 ^ f) r.n:Int))∧Fr No W w') at hct
  have hd:=hS W2.drew (Fr.refl _ _).drew;have d2:=hS W2 (Fr.refl _ _);clear a2 hs2
  by_cases hmj:2*lS (r.aY |||2 ^ f) r.n≤r.n
  ·have e4:decide (2*lS (r.aY |||2 ^ f) r.n≤r.n)=true:=decide_eq_true hmj
   have e5:decide (2*(lS (r.aY |||2 ^ f) r.n:Int)≤(r.n:Int))=true:=dtt;have hov:=HB.out hmj;have hfin:=fun W (hf:Fr No W2 W)=>aH.mk' (hst W hf) (fF.none_ W);rw [←hov] at hfin;clear hov hmj hst hld i2 f2 HB HC;generalize lS (r.aY |||2 ^ f) r.n=C at*;have hw2:IntKind.i64.wrap (2*(C:Int))=2*(C:Int):=IntWalk.i64_in _ oy;obtain ⟨HS,HCT,bS⟩:=bP hS hct hfin;clear hS hct hfin
   go_wp2_with fail
   go_region_held3 (fun V=>V.cell? ⟨p,2,none⟩=some (.int .i64 (r.n:Int))) (first|exact hd|exact HS.out _ frz) (first
    |(go_at_call 147;refine (HCT.out _ frz).mono ?_;rintro e w3 ⟨rfl,f3⟩;have P3:Fr No W2 w3:=Fr.ah frz f3;clear f3))
   all_goals
    go_wp2_with fail
    go_ret
    exact bS.out _ frz
  ·have e4:decide (2*lS (r.aY |||2 ^ f) r.n≤r.n)=false:=decide_eq_false hmj
   have e5:decide (2*(lS (r.aY |||2 ^ f) r.n:Int)≤(r.n:Int))=false:=dff;have hov:=HC.out hmj;have aps:=fun W W' (hf:Fr No W2 W) (t:bY W F2 p ({r with aY:=r.aY |||2 ^ f}:Rs).lead n W')=>bY.then f2 i2 (bY.after hf t);have hrl:({r with aY:=r.aY |||2 ^ f}:Rs).lead.role=3:=rfl;generalize ({r with aY:=r.aY |||2 ^ f}:Rs).lead=rl at*;clear hmj hst i2 f2 HB HC;generalize lS (r.aY |||2 ^ f) r.n=C at*;have hw2:IntKind.i64.wrap (2*(C:Int))=2*(C:Int):=IntWalk.i64_in _ oy;obtain ⟨HS,HCT,HLD,asi,HRL,HOV⟩:=lG hS hct hld aps hrl hov;clear hS hct hld aps hrl hov
   go_wp2_with fail
   go_region_held3 (fun V=>V.cell? ⟨p,2,none⟩=some (.int .i64 (r.n:Int))) (first|exact hd|exact HS.out _ frz) (first
    |(go_at_call 147;refine (HCT.out _ frz).mono ?_;rintro e w3 ⟨rfl,f3⟩;have P3:Fr No W2 w3:=Fr.ah frz f3;clear f3))
   all_goals
    go_wp2_with fail
    refine (HLD.out _ frz).mono ?_;rintro e w4 ⟨rfl,t4⟩;obtain ⟨F5,a5,i5,f5⟩:=asi.out _ w4 frz t4;have hta:=uf a5 HRL.out;have hfin:=fun e W (k:fF w4 rl.gF e W)=>aH.mk' (⟨F5,a5,i5,f5⟩:bY w F p rl n w4) k;clear t4 a5 i5 f5;have zn:=HOV.out;generalize rl.gF=ta at*;replace HOV:=O zn;clear zn;obtain ⟨HTA,bS⟩:=aO hta hfin;clear hta hfin
    go_wp2_with fail
    refine HTA.out.mono ?_;rintro e w6 m6;have T:=O (bS.out _ _ m6);obtain ⟨A5,c5,rfl,-,-⟩:=m6
    go_wp2_with fail
    go_ret
    rw [HOV.out];exact T.out
end
end Go.Proofs.YtjnfmfmglehmbaaGreat
