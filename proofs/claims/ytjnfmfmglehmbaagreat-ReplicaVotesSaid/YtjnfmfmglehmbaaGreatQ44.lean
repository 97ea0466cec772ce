/-
  The reference's replica: an append message that is not taken.
-/
import Derived.Test.YtjnfmfmglehmbaaGreatQ43
import Derived.Test.YtjnfmfmglehmbaaGreatQ24
namespace Go.Proofs.YtjnfmfmglehmbaaGreat
open Go.ChangeShapes Go.WideShapes Go.ChangeAt Go.RowKit
set_option linter.unusedVariables false
set_option maxRecDepth 100000
set_option maxHeartbeats 4000000
section
section
variable {w w' w1:World}{F G Fj F' :Nat→Prop}{p:Nat}{r r' :Rs}{n m:Nat}{V X M V' X' M' :Value}{bs xs ms bs' xs' ms' :List Value}
theorem bR.views (h:bR w F p r n):∃j A c,r.js.log.length≤c∧c≤maxLen∧(∀W,Fr No w W→∀i:Int,Calls Tryz.prog 110 #[.pointer (some ⟨j,0,none⟩),.int .i64 i] W fun e w' =>e= .returned (.int .i64 (aD r.js.log i))∧Fr No W w')∧
  ∀W,Fr No w W→(W.cell? ⟨p,0,none⟩=some (.pointer (some ⟨j,0,none⟩))∧W.cell? ⟨p,1,none⟩=some (.int .i64 (r.id:Int))∧W.cell? ⟨p,3,none⟩=some (.int .i64 r.role)∧W.cell? ⟨p,4,none⟩=some (.int .i64 (r.commit:Int)))∧(W.frozen? ⟨p,3,none⟩=false∧W.frozen? ⟨p,4,none⟩=false)∧(W.cell? ⟨j,1,none⟩=some (.int .i64 r.js.term)∧W.cell? ⟨j,3,none⟩=some (.slice A r.js.log.length c)):=by
 obtain ⟨j,Fj,V,X,M,bs,xs,ms,h1,h2,hj,h4⟩:=h;obtain ⟨d,A,c,b1,b2,b3⟩:=hj.open_;obtain ⟨c1,c2⟩:=b3.cap;refine ⟨j,A,c,c1,c2,fun W hW i=>pX (hj.ak hW) i,fun W hW=> ?_⟩;have q:=h1.fr hW id;have k:=b1.fr hW id;exact ⟨⟨q.cell 0,q.cell 1,q.cell 3,q.cell 4⟩,⟨q.frozen 3,q.frozen 4⟩,k.cell 1,k.cell 3⟩
theorem bR.lQ (h:bR w F p r n):bY w F p {r with role:=1} n (w.setCell ⟨p,3,none⟩ (.int .i64 1)):=by
 obtain ⟨j,Fj,V,X,M,bs,xs,ms,h1,h2,h3,h4,h5,h6,h7,h8⟩:=h;exact bR.cells (r:=r) (r' :={r with role:=1}) h1 h2 h3 h4 h5 h6 h7 ((Fr.refl (fun i=>i=p) w).setCell (p:=⟨p,3,none⟩) (.inl rfl) _) ((h1.aU 3 _).conv rfl) rfl (h7.follow rfl) h8.falls
theorem bR.commits (h:bR w F p r n)(c:Nat)(hc:c≤r.js.log.length):bY w F p {r with commit:=c} n (w.setCell ⟨p,4,none⟩ (.int .i64 (c:Int))):=by
 obtain ⟨j,Fj,V,X,M,bs,xs,ms,h1,h2,h3,h4,h5,h6,h7,h8⟩:=h;exact bR.cells (r:=r) (r' :={r with commit:=c}) h1 h2 h3 h4 h5 h6 h7 ((Fr.refl (fun i=>i=p) w).setCell (p:=⟨p,4,none⟩) (.inl rfl) _) ((h1.aU 4 _).conv rfl) rfl (h7.same rfl rfl rfl rfl rfl) ⟨h8.log,h8.lo,h8.hi,h8.vlo,h8.vhi,h8.idn,h8.five,h8.role,hc,h8.vts,h8.nxt,h8.mts⟩
set_option maxHeartbeats 16000000 in
theorem zT (h:bR w F p r n)(m:Ms)(v:Value)(hm:bH r m)(hN:m.term<r.js.term∨r.role=3∨r.fits m=false):Calls Tryz.prog 108 #[.pointer (some ⟨p,0,none⟩),m.v v] w (aH w F p (r.aK m) n):=by
 have hok:=h.ok;have agd:=hm.i0;have agc:=hm.i1;have lK:=hok.log.few;have hst:=fun W (hf:Fr No w W) (a:Int)=>jS (h.ak hf) m v a false;have hstill:=fun W (hf:Fr No w W)=>h.still hf;obtain ⟨j,A,c,hc1,hc2,hTA,hcl⟩:=h.views;unfold maxLen at hc2;have hgF:∀g,w.heap.size≤g→¬F g:=fun g hg hh=>by have:=h.lt g hh;omega
 have q_lt:m.term<r.js.term→r.aK m=(r,r.answer m.from_ 0 false):=fun hh=>by unfold Rs.aK;rw [if_pos hh]
 have q_ld:¬m.term<r.js.term→r.role=3→r.aK m=(r,[]):=fun hh h2=>by unfold Rs.aK;rw [if_neg hh,if_pos h2]
 have afu:¬m.term<r.js.term→¬r.role=3→r.fits m=false→r.aK m=({r with role:=1},r.answer m.from_ (min (r.js.log.length:Int) (m.index-1)) false):=fun hh h2 h3=>by unfold Rs.aK;rw [if_neg hh,if_neg h2,if_pos h3]
 have h3:m.term<r.js.term∨(¬m.term<r.js.term∧r.role=3)∨(¬m.term<r.js.term∧¬r.role=3∧r.fits m=false):=by
  by_cases a:m.term<r.js.term
  ·exact .inl a
  ·by_cases b:r.role=3
   ·exact .inr (.inl ⟨a,b⟩)
   ·rcases hN with q|q|q
    ·exact absurd q a
    ·exact absurd q b
    ·exact .inr (.inr ⟨a,b,q⟩)
 have hfd:r.fits m=false→(r.js.log.length:Int)<m.index∨((m.index:Int)≤r.js.log.length∧0<m.index∧¬aD r.js.log (m.index-1)=m.prev):=by
  intro q;unfold Rs.fits at q;simp only [decide_eq_false_iff_not] at q
  by_cases a:(r.js.log.length:Int)<m.index
  ·exact .inl a
  ·refine .inr ⟨by omega,?_,?_⟩
   ·apply Classical.byContradiction
    intro hh;exact q ⟨by omega,.inl oy⟩
   ·intro hh
    exact q ⟨by omega,.inr hh⟩
 clear hN hm;obtain ⟨kd,mf,mto,mt,ix,pv,cm,ok,es⟩:=m;simp only at*;obtain ⟨W0,hW0⟩:∃W0,W0=w.alloc (.cells (cZ kd mf mto mt ix pv cm ok v) TMs):=⟨_,rfl⟩;have hf0:Fr No w W0:=by rw [hW0];exact aj _ _
 obtain ⟨g,hg⟩:∃g,g=w.heap.size:=⟨_,rfl⟩;have hb:Blk W0 g TMs (cZ kd mf mto mt ix pv cm ok v):=by rw [hW0,hg];exact Blk.new _ _ _
 have hgp:g≠p:=fun hh=>hgF g oy (hh▸h.lC);have hC:=fun W (hf:Fr No W0 W)=>aL (m:=⟨kd,mf,mto,mt,ix,pv,cm,ok,es⟩) (hb.fr hf id);simp only at hC;obtain ⟨c0,c1,c2,c3,c4,c5,c6,c7,c8⟩:=hC _ (Fr.refl _ _);obtain ⟨⟨a0,a1,a3,a4⟩,⟨f3,f4⟩,b1,b3⟩:=hcl _ hf0
 rcases h3 with a|⟨a,b⟩|⟨a,b,q⟩
 ·have hov:=q_lt a
  rw [hov];have u1:decide (mt<r.js.term)=true:=by simpa using a
  have hs2:=fun W hf=>hst W hf 0;generalize r.answer mf 0 false=ans at*;clear h hok hb hgF q_lt q_ld afu hov hfd a hst hTA hcl;obtain ⟨bZ,HW0,HF0,HG,HC,HS2⟩:=lG hstill hW0 hf0 hg hC hs2;clear hstill hW0 hf0 hg hC hs2
  go_in
  go_upto_region 1 with fail
  rw [←HG.out,←HW0.out]
  go_wp2_with fail
  go_quiet (fail)
  have K1:=O ((Fr.refl No W0).drewN nq);generalize W0.drewN nq=W1 at*;clear c0 c1 c2 c3 c4 c5 c6 c7 c8 a0 a1 a3 a4 b1 b3 f3 f4;obtain ⟨c0,c1,c2,c3,c4,c5,c6,c7,c8⟩:=HC.out _ K1.out
  go_wp2_with fail
  refine (HS2.out _ (HF0.out.ah K1.out)).mono ?_;rintro e w5 m5;have M:=O m5;obtain ⟨A5,c5',rfl,-,-⟩:=m5
  go_wp2_with fail
  go_ret
  exact aH.mk' (bZ.out _ (HF0.out.ah K1.out)) M.out
 ·have hov:=q_ld a b
  rw [hov];have u1:decide (mt<r.js.term)=false:=by simpa using a
  rw [b] at a3;clear h hok hb hgF q_lt q_ld afu hov hfd a b hst hTA hcl;obtain ⟨bZ,HW0,HF0,HG,HC⟩:=jr hstill hW0 hf0 hg hC;clear hstill hW0 hf0 hg hC
  go_in
  go_upto_region 1 with fail
  rw [←HG.out,←HW0.out]
  go_wp2_with fail
  go_quiet (fail)
  go_wp2_with fail
  go_ret
  exact aH.mk' (bZ.out _ (HF0.out.ah frz)) (fF.none_ _)
 have hov:=afu a b q;rw [hov];have an9:=hfd q;have u1:decide (mt<r.js.term)=false:=by simpa using a
 have u2:(r.role == 3)=false:=by simpa using b
 have jl:=fun W (hf:Fr No W0 W)=>bY.after (hf0.ah hf) ((h.ak (hf0.ah hf)).lQ);have hCp:∀W W2,Fr No W0 W→W2=W.setCell ⟨p,3,none⟩ (.int .i64 1)→Blk W2 g TMs (cZ kd mf mto mt ix pv cm ok v):=fun W W2 hf he=>by rw [he];exact (hb.fr hf id).aF hgp _
 clear h hok hb hgF q_lt q_ld afu hov hfd a b q hst hstill hTA hcl;obtain ⟨HW0,HF0,HG,HC,jM,HCP⟩:=lG hW0 hf0 hg hC jl hCp;clear hW0 hf0 hg hC jl hCp
 go_in
 go_upto_region 1 with fail
 rw [←HG.out,←HW0.out]
 go_wp2_with fail
 go_quiet (fail)
 have K1:=O ((Fr.refl No W0).drewN nq)
 go_upto_region 6 with fail
 obtain ⟨W2,hW2⟩:∃W2,W2=(W0.drewN nq).setCell ⟨p,3,none⟩ (.int .i64 1):=⟨_,rfl⟩;rw [←hW2];have hr2:=jM.out _ ((Fr.refl No W0).drewN nq);rw [←hW2] at hr2;have hb2:=HCP.out _ W2 ((Fr.refl No W0).drewN nq) hW2;clear hW2 c0 c1 c2 c3 c4 c5 c6 c7 c8 a0 a1 a3 a4 b1 b3 f3 f4 K1;have hC3:=fun V (hf:Fr No W2 V)=>aL (m:=⟨kd,mf,mto,mt,ix,pv,cm,ok,es⟩) (hb2.fr hf id);simp only at hC3;have hfin:∀V e w' (x:Int),Fr No W2 V→x=min (r.js.log.length:Int) (ix-1)→fF V (r.answer mf x false) e w'→aH w F p ({r with role:=1},r.answer mf (min (r.js.log.length:Int) (ix-1)) false) n e w' :=fun V e w' x hf hx k=>by
  subst hx;exact aH.mk' (hr2.quiet hf) k
 obtain ⟨G2,a2,i2,g2⟩:=hr2;have hS:=fun V (hf:Fr No W2 V) (x:Int)=>jS (a2.ak hf) ⟨kd,mf,mto,mt,ix,pv,cm,ok,es⟩ v x false;obtain ⟨j2,A2,c2',-,hc22,hTA,hcl⟩:=a2.views;have hTA:=fun V (hf:Fr No W2 V)=>hTA V hf (ix-1);have hSC:∀V,Fr No W2 V→(V.cell? ⟨g,4,none⟩=some (.int .i64 ix)∧V.cell? ⟨g,5,none⟩=some (.int .i64 pv)∧V.cell? ⟨p,0,none⟩=some (.pointer (some ⟨j2,0,none⟩))∧V.cell? ⟨j2,3,none⟩=some (.slice A2 r.js.log.length c2')):=fun V hf=>by
  obtain ⟨⟨y0,-⟩,-,-,y3⟩:=hcl V hf;obtain ⟨z0,z1,z2,z3,z4,z5,-⟩:=hC3 V hf;exact ⟨z4,z5,y0,y3⟩
 have hSM:∀V,Fr No W2 V→(V.cell? ⟨g,0,none⟩=some (.int .i64 kd)∧V.cell? ⟨g,1,none⟩=some (.int .i64 mf)∧V.cell? ⟨g,2,none⟩=some (.int .i64 mto)∧V.cell? ⟨g,3,none⟩=some (.int .i64 mt)∧V.cell? ⟨g,4,none⟩=some (.int .i64 ix)∧V.cell? ⟨g,5,none⟩=some (.int .i64 pv)∧V.cell? ⟨g,6,none⟩=some (.int .i64 cm)∧V.cell? ⟨g,7,none⟩=some (.bool ok)∧V.cell? ⟨g,8,none⟩=some v)∧V.cell? ⟨p,0,none⟩=some (.pointer (some ⟨j2,0,none⟩))∧V.cell? ⟨j2,3,none⟩=some (.slice A2 r.js.log.length c2'):=fun V hf=>by
  obtain ⟨-,-,y0,y3⟩:=hSC V hf;exact ⟨hC3 V hf,y0,y3⟩
 change ∀(V:World) (hf:Fr No W2 V) (x:Int),Calls _ _ _ V (fF V (r.answer mf x false)) at hS
 have hwr:IntKind.i64.wrap (ix-1)=ix-1:=IntWalk.i64_in _ oy;obtain ⟨y4,y5,y0,y3⟩:=hSC _ (Fr.refl _ _);clear a2 i2 g2 hb2 hcl
 rcases an9 with d|⟨d1,d2,d3⟩
 ·have hS2:=hS
  have t1:decide ((r.js.log.length:Int)<ix)=true:=by simpa using d
  have t2:¬ix-1<(r.js.log.length:Int):=by omega
  generalize r.js.log.length=ll at*;clear hS hTA hSC hC3;obtain ⟨HS2,bS,HSM⟩:=bP hS2 hfin hSM;clear hS2 hfin hSM
  go_wp2_with fail
  go_quiet (fail)
  have K2:Fr No W2 (W2.drewN nq):=(Fr.refl No W2).drewN nq;have hd:=HSM.out _ K2.drew;generalize W2.drewN nq=W3 at*;clear y4 y5 y0 y3;obtain ⟨⟨z0,z1,z2,z3,z4,z5,z6,z7,z8⟩,y0,y3⟩:=HSM.out _ K2
  go_wp2_with fail
  go_region_held3 (fun V=>(V.cell? ⟨g,0,none⟩=some (.int .i64 kd)∧V.cell? ⟨g,1,none⟩=some (.int .i64 mf)∧V.cell? ⟨g,2,none⟩=some (.int .i64 mto)∧V.cell? ⟨g,3,none⟩=some (.int .i64 mt)∧V.cell? ⟨g,4,none⟩=some (.int .i64 ix)∧V.cell? ⟨g,5,none⟩=some (.int .i64 pv)∧V.cell? ⟨g,6,none⟩=some (.int .i64 cm)∧V.cell? ⟨g,7,none⟩=some (.bool ok)∧V.cell? ⟨g,8,none⟩=some v)∧V.cell? ⟨p,0,none⟩=some (.pointer (some ⟨j2,0,none⟩))∧V.cell? ⟨j2,3,none⟩=some (.slice A2 ll c2')) (first|exact hd|exact HSM.out _ frz) (first
   |(go_at_call 148;refine (HS2.out _ frz _).mono ?_;rintro e w5 m5;have M:=O (bS.out _ _ _ _ frz (by first|omega|(split<;>omega)) m5);obtain ⟨A5,c5',rfl,-,f5⟩:=m5;have P5:Fr No W2 w5:=Fr.ah frz f5;clear f5))
  all_goals
   go_wp2_with fail
   go_ret
   exact M.out
 ·have hS2:=hS
  have t1:decide ((r.js.log.length:Int)<ix)=false:=by simpa using d1
  have t2:ix-1<(r.js.log.length:Int):=by omega
  have t3:decide (0<ix)=true:=by simpa using d2
  have t4:(aD r.js.log (ix-1) != pv)=true:=by simpa using d3
  change ∀(V:World),Fr No W2 V→Calls _ _ _ V (fun e w' =>e= .returned (.int .i64 (aD r.js.log (ix-1)))∧Fr No V w') at hTA
  generalize aD r.js.log (ix-1)=pt at*;generalize r.js.log.length=ll at*;have hd0:=hSC _ (Fr.refl No W2).drew;clear hS hC3 d3;obtain ⟨HS2,bS,HSM,HSC,HTA⟩:=jr hS2 hfin hSM hSC hTA;clear hS2 hfin hSM hSC hTA
  go_wp2_with fail
  go_region_held3 (fun V=>V.cell? ⟨g,4,none⟩=some (.int .i64 ix)∧V.cell? ⟨g,5,none⟩=some (.int .i64 pv)∧V.cell? ⟨p,0,none⟩=some (.pointer (some ⟨j2,0,none⟩))∧V.cell? ⟨j2,3,none⟩=some (.slice A2 ll c2')) (first|exact hd0|exact HSC.out _ frz) (first
   |(go_at_call 110;refine (HTA.out _ frz).mono ?_;rintro e w3 ⟨rfl,f3⟩;have P3:Fr No W2 w3:=Fr.ah frz f3;clear f3))
  all_goals
   obtain ⟨⟨z0,z1,z2,z3,z4,z5,z6,z7,z8⟩,x0,x3⟩:=HSM.out _ P3;have hd:=HSM.out _ P3.drew;clear y4 y5 y0 y3
   go_wp2_with fail
   go_region_held3 (fun V=>(V.cell? ⟨g,0,none⟩=some (.int .i64 kd)∧V.cell? ⟨g,1,none⟩=some (.int .i64 mf)∧V.cell? ⟨g,2,none⟩=some (.int .i64 mto)∧V.cell? ⟨g,3,none⟩=some (.int .i64 mt)∧V.cell? ⟨g,4,none⟩=some (.int .i64 ix)∧V.cell? ⟨g,5,none⟩=some (.int .i64 pv)∧V.cell? ⟨g,6,none⟩=some (.int .i64 cm)∧V.cell? ⟨g,7,none⟩=some (.bool ok)∧V.cell? ⟨g,8,none⟩=some v)∧V.cell? ⟨p,0,none⟩=some (.pointer (some ⟨j2,0,none⟩))∧V.cell? ⟨j2,3,none⟩=some (.slice A2 ll c2')) (first|exact hd|exact HSM.out _ frz) (first
    |(go_at_call 148;refine (HS2.out _ frz _).mono ?_;rintro e w5 m5;have M:=O (bS.out _ _ _ _ frz (by first|omega|(split<;>omega)) m5);obtain ⟨A5,c5',rfl,-,f5⟩:=m5;have P5:Fr No W2 w5:=Fr.ah frz f5;clear f5))
   all_goals
    go_wp2_with fail
    go_ret
    exact M.out
end
end
theorem Ent.atF {w:World}{G:Nat→Prop}{A:Option Addr}{n c i:Nat}{es:List Lg}(h:Ent w G (.slice A n c) es)(hi:i<es.length):
  ∃b off x,A=some ⟨b,off,none⟩∧es[i]? =some x∧∀(F:Nat→Prop) V,Fr F w V→(∀k,G k→¬F k)→(V.cell? ⟨b,off+i*10,none⟩=some (.int .i64 x.term)∧V.cell? ⟨b,off+i*10+1,none⟩=some (.int .i64 x.e.kind)∧V.cell? ⟨b,off+i*10+2,none⟩=some (.int .i64 x.e.tick)∧V.cell? ⟨b,off+i*10+3,none⟩=some (.int .i64 x.e.aS)∧V.cell? ⟨b,off+i*10+4,none⟩=some (.int .i64 x.e.cell)∧V.cell? ⟨b,off+i*10+5,none⟩=some (.int .i64 x.e.other)∧V.cell? ⟨b,off+i*10+6,none⟩=some (.int .i64 x.e.epoch)∧V.cell? ⟨b,off+i*10+7,none⟩=some (.int .i64 x.e.from_)∧V.cell? ⟨b,off+i*10+8,none⟩=some (.int .i64 x.e.bA)∧V.cell? ⟨b,off+i*10+9,none⟩=some (.int .i64 x.e.n)):=by
 obtain ⟨b,off,x,rfl,hx,-⟩:=h.at_ hi;refine ⟨b,off,x,rfl,hx,fun F V hf hd=> ?_⟩;obtain ⟨b',off',x',e,hx',hc'⟩:=(h.fr hf hd).at_ hi;injection e with e;injection e with e1 e2;subst e1 e2;rw [hx] at hx';injection hx' with hx';subst hx';exact hc' V (Fr.refl _ _)
end Go.Proofs.YtjnfmfmglehmbaaGreat
