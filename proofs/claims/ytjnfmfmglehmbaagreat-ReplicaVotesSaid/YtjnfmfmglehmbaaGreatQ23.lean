/-
  The program's replica: an append message is taken.
-/
import Derived.Test.YtjnfmfmglehmbaaGreatQ19
import Derived.Test.YtjnfmfmglehmbaaGreatQ03
namespace Go.Proofs.YtjnfmfmglehmbaaGreat
open Go.ChangeShapes Go.WideShapes Go.ChangeAt Go.RowKit
set_option linter.unusedVariables false
set_option maxRecDepth 100000
set_option maxHeartbeats 4000000
theorem qD (l:List Lg)(es:List Lg){i k:Nat}{x:Lg}(hx:es[k]? =some x):aX l (i+k) (es.drop k)=if aD l ((i+k:Nat):Int)=x.term then aX l (i+(k+1)) (es.drop (k+1))+1 else 0:=by
 have hk:=(List.getElem?_eq_some_iff.1 hx).1;have hd:es.drop k=x :: es.drop (k+1):=by
  rw [List.drop_eq_getElem_cons hk]
  congr 1
  rw [List.getElem?_eq_getElem hk] at hx;injection hx
 rw [hd];simp only [aX]
 rfl
theorem bU.falls {r:Rs}(h:bU r):bU {r with role:=1}:=⟨h.log,h.lo,h.hi,h.vlo,h.vhi,h.idn,h.five,.inl rfl,h.com,h.vts,fun hh=>by simp at hh,fun hh=>by simp at hh⟩
section
variable {w w' :World}{F G:Nat→Prop}{p:Nat}{r:Rs}{s:Js}{n:Nat}
theorem RAt.lQ (h:RAt w F p r n):RTo w F p {r with role:=1} n (w.setCell ⟨p,3,none⟩ (.int .i64 1)):=by
 obtain ⟨j,Fj,bits,nx,mt,h1,h2,h3,h4,h5,h6,h7,h8⟩:=h;exact RAt.cells (r:=r) (r' :={r with role:=1}) h2 h3 h4 h5 h6 (bits' :=bits) (nx' :=nx) (mt' :=mt) ((Fr.refl (fun i=>i=p) w).setCell (p:=⟨p,3,none⟩) (.inl rfl) _) ((h1.aU 3 _).conv rfl) rfl ⟨fun hh=>by simp at hh,fun hh=>by simp at hh⟩ h8.falls
theorem RAt.commits (h:RAt w F p r n)(hr:r.role=1)(c:Nat)(hc:c≤r.js.log.length):RTo w F p {r with commit:=c} n (w.setCell ⟨p,4,none⟩ (.int .i64 (c:Int))):=by
 obtain ⟨j,Fj,bits,nx,mt,h1,h2,h3,h4,h5,h6,h7,h8⟩:=h;exact RAt.cells (r:=r) (r' :={r with commit:=c}) h2 h3 h4 h5 h6 (bits' :=bits) (nx' :=nx) (mt' :=mt) ((Fr.refl (fun i=>i=p) w).setCell (p:=⟨p,4,none⟩) (.inl rfl) _) ((h1.aU 4 _).conv rfl) rfl h7 ⟨h8.log,h8.lo,h8.hi,h8.vlo,h8.vhi,h8.idn,h8.five,h8.role,hc,h8.vts,h8.nxt,h8.mts⟩
def bQ (l:List Lg)(es:List Lg)(i:Nat)(k:Nat):Prop:=k≤es.length∧aX l i es=k+aX l (i+k) (es.drop k)
theorem bQ.zero (l es:List Lg)(i:Nat):bQ l es i 0:=⟨Nat.zero_le _,by simp⟩
theorem bQ.next {l es:List Lg}{i k:Nat}{x:Lg}(h:bQ l es i k)(hx:es[k]? =some x)(he:aD l ((i+k:Nat):Int)=x.term):bQ l es i (k+1):=by
 have hk:=(List.getElem?_eq_some_iff.1 hx).1;refine ⟨hk,?_⟩;rw [h.2,qD l es hx,if_pos he]
 omega
theorem bQ.stop {l es:List Lg}{i k:Nat}{x:Lg}(h:bQ l es i k)(hx:es[k]? =some x)(he:¬aD l ((i+k:Nat):Int)=x.term):aX l i es=k:=by
 rw [h.2,qD l es hx,if_neg he]
 rfl
theorem bQ.done {l es:List Lg}{i k:Nat}(h:bQ l es i k)(hk:k=es.length):aX l i es=k:=by
 have h2:=h.2;rw [hk,List.drop_length] at h2;rw [h2,hk]
 rfl
set_option maxHeartbeats 8000000 in
theorem mh (h:RAt w F p r n)(m:Ms)(A:Option Addr)(c:Nat)(hm:bH r m)(hk:m.kind=3)(ht:m.term≤r.js.term)(hE:Ent w G (.slice A m.es.length c) m.es)(hGF:∀i,G i→¬F i)(hes:∀x∈m.es,x.e.ok)(hN:m.term<r.js.term∨r.role=3∨r.fits m=false)(hsz:n+600000≤140737488355328):Calls Tryz.prog 103 #[.pointer (some ⟨p,0,none⟩),m.v (.slice A m.es.length c)] w (aQ w F p (r.aK m) (n+600000)):=by
 have hok:=h.ok;have hle:=h.more (m:=n+600000) oy;have agd:=hm.i0;have agc:=hm.i1;have hT:=fun W (hf:Fr No w W)=>iq (h.ak hf).rj;have hst:=fun W (hf:Fr No w W) a b c=>kL (h.ak hf) a b c;have hstill:=fun W (hf:Fr No w W)=>hle.still hf;obtain ⟨W0,hW0⟩:∃W0,W0=w.alloc (.cells (m.cells (.slice A m.es.length c)).toArray TMs):=⟨_,rfl⟩;have hf0:Fr No w W0:=by rw [hW0];exact aj _ _
 obtain ⟨g,hg⟩:∃g,g=w.heap.size:=⟨_,rfl⟩;have hb:Blk W0 g TMs (m.cells (.slice A m.es.length c)).toArray:=by rw [hW0,hg];exact Blk.new _ _ _
 have hgF:¬F g:=fun hh=>by have:=h.lt g hh;omega
 have hgp:g≠p:=fun hh=>hgF (hh▸h.lC);have hP:∀W,Fr No w W→W.cell? ⟨p,3,none⟩=some (.int .i64 r.role)∧W.frozen? ⟨p,3,none⟩=false:=fun W hW=>(let ⟨_,_,_,_,_,h1,_⟩:=h.ak hW;⟨h1.cell 3,h1.frozen 3⟩);have hC:=fun W (hf:Fr No W0 W)=>aL (m:=m) (hb.fr hf id);have h0:=h.ak hf0;have q_lt:m.term<r.js.term→r.aK m=(r,r.answer m.from_ 0 false):=fun hh=>by unfold Rs.aK;rw [if_pos hh]
 have q_ld:¬m.term<r.js.term→r.role=3→r.aK m=(r,[]):=fun hh h2=>by unfold Rs.aK;rw [if_neg hh,if_pos h2]
 have afu:¬m.term<r.js.term→¬r.role=3→r.fits m=false→r.aK m=({r with role:=1},r.answer m.from_ (min (r.js.log.length:Int) (m.index-1)) false):=fun hh h2 h3=>by unfold Rs.aK;rw [if_neg hh,if_neg h2,if_pos h3]
 have h3:m.term<r.js.term∨(¬m.term<r.js.term∧r.role=3)∨(¬m.term<r.js.term∧¬r.role=3∧r.fits m=false):=by
  by_cases a:m.term<r.js.term
  ·exact .inl a
  ·by_cases b:r.role=3
   ·exact .inr (.inl ⟨a,b⟩)
   ·rcases hN with q|q|q
    ·exact absurd q a
    ·exact absurd q b
    ·exact .inr (.inr ⟨a,b,q⟩)
 have lK:=hok.log.few;have hfd:r.fits m=false→(r.js.log.length:Int)<m.index∨((m.index:Int)≤r.js.log.length∧0<m.index∧¬aD r.js.log (m.index-1)=m.prev):=by
  intro q;unfold Rs.fits at q;simp only [decide_eq_false_iff_not] at q
  by_cases a:(r.js.log.length:Int)<m.index
  ·exact .inl a
  ·refine .inr ⟨by omega,?_,?_⟩
   ·apply Classical.byContradiction
    intro hh;exact q ⟨by omega,.inl oy⟩
   ·intro hh
    exact q ⟨by omega,.inr hh⟩
 clear hN hm hk ht hE hGF hes;obtain ⟨kd,mf,mto,mt,ix,pv,cm,ok,es⟩:=m;simp only [Ms.cells] at hW0 hC;simp only at*;obtain ⟨c0,c1,c2,c3,c4,c5,c6,c7,c8⟩:=hC _ (Fr.refl _ _);obtain ⟨p3,pf3⟩:=hP _ hf0
 rcases h3 with a|⟨a,b⟩|⟨a,b,q⟩
 ·have hov:=q_lt a
  rw [hov];have u1:decide (mt<r.js.term)=true:=by simpa using a
  have hs2:=fun W hf=>hst W hf mf 0 false;generalize r.answer mf 0 false=ans at*;generalize r.js.term=tt at*;clear h h0 hok hle hb hP hgF q_lt q_ld afu hov hfd a hst;obtain ⟨bZ,HT,HW0,HF0,HG,HC,HS2⟩:=nC hstill hT hW0 hf0 hg hC hs2;clear hstill hT hW0 hf0 hg hC hs2
  go_in
  go_wp2_with fail
  rw [←HG.out,←HW0.out]
  go_quiet ((go_at_call 12;exact aI (HT.out _ (HF0.out.drewN _))))
  have K1:=O ((Fr.refl No W0).drewN nq);generalize W0.drewN nq=W1 at*;clear c0 c1 c2 c3 c4 c5 c6 c7 c8;obtain ⟨c0,c1,c2,c3,c4,c5,c6,c7,c8⟩:=HC.out _ K1.out
  go_wp2_with fail
  refine (HS2.out _ (HF0.out.ah K1.out)).mono ?_;rintro e w5 m5;have M:=O m5;obtain ⟨A5,c5',rfl,-,-⟩:=m5
  go_wp2_with fail
  go_ret
  exact aQ.mk' (bZ.out _ (HF0.out.ah K1.out)) M.out
 ·have hov:=q_ld a b
  rw [hov];have u1:decide (mt<r.js.term)=false:=by simpa using a
  rw [b] at p3;generalize r.js.term=tt at*;clear h h0 hok hle hb hP hgF q_lt q_ld afu hov hfd a b hst;obtain ⟨bZ,HT,HW0,HF0,HG,HC⟩:=lG hstill hT hW0 hf0 hg hC;clear hstill hT hW0 hf0 hg hC
  go_in
  go_wp2_with fail
  rw [←HG.out,←HW0.out]
  go_quiet ((go_at_call 12;exact aI (HT.out _ (HF0.out.drewN _))))
  go_wp2_with fail
  go_ret
  exact aQ.mk' (bZ.out _ frz) (fF.none_ _)
 ·have hov:=afu a b q
  rw [hov];have an9:=hfd q;have u1:decide (mt<r.js.term)=false:=by simpa using a
  have u2:(r.role == 3)=false:=by simpa using b
  have jl:=fun W (hf:Fr No W0 W)=>RTo.after (hf0.ah hf) ((hle.ak (hf0.ah hf)).lQ);have hCp:∀W W2,Fr No W0 W→W2=W.setCell ⟨p,3,none⟩ (.int .i64 1)→Blk W2 g TMs ((⟨kd,mf,mto,mt,ix,pv,cm,ok,es⟩:Ms).cells (.slice A es.length c)).toArray:=fun W W2 hf he=>by rw [he];exact (hb.fr hf id).aF hgp _
  generalize r.js.term=tt at*;clear h h0 hok hle hb hP hgF q_lt q_ld afu hov hfd a b q hst hstill;obtain ⟨HT,HW0,HF0,HG,HC,jM,HCP⟩:=nC hT hW0 hf0 hg hC jl hCp;clear hT hW0 hf0 hg hC jl hCp
  go_in
  go_wp2_with fail
  rw [←HG.out,←HW0.out]
  go_quiet ((go_at_call 12;exact aI (HT.out _ (HF0.out.drewN _))))
  go_wp2_with fail
  obtain ⟨W2,hW2⟩:∃W2,W2=(W0.drewN nq).setCell ⟨p,3,none⟩ (.int .i64 1):=⟨_,rfl⟩;rw [←hW2];have hr2:=jM.out _ ((Fr.refl No W0).drewN nq);rw [←hW2] at hr2;have hb2:=HCP.out _ W2 ((Fr.refl No W0).drewN nq) hW2;clear hW2 c0 c1 c2 c3 c4 c5 c6 c7 c8 p3 pf3;have hC3:=fun V (hf:Fr No W2 V)=>aL (hb2.fr hf id);simp only at hC3;obtain ⟨c0,c1,c2,c3,c4,c5,c6,c7,c8⟩:=hC3 _ (Fr.refl _ _);have hfin:=fun V (hf:Fr No W2 V)=>hr2.quiet hf;obtain ⟨G2,a2,i2,f2⟩:=hr2;have hL:=fun V (hf:Fr No W2 V)=>qo (a2.ak hf).rj;have hS:=fun V (hf:Fr No W2 V) x=>kL (a2.ak hf) mf x false;obtain ⟨j,Fj,bits,nx,mtc,h1,h2,h3,-⟩:=a2;have p0:∀V,Fr No W2 V→V.cell? ⟨p,0,none⟩=some (.pointer (some ⟨j,0,none⟩)):=fun V hf=>(h1.fr hf id).cell 0;have hTA:=fun V (hf:Fr No W2 V)=>mY (h3.ak hf) (ix-1)
  rcases an9 with d|⟨d1,d2,d3⟩
  ·have hS2:=fun V hf=>hS V hf (r.js.log.length:Int)
   have hmin:min (r.js.log.length:Int) (ix-1)=(r.js.log.length:Int):=by omega
   have t1:decide ((r.js.log.length:Int)<ix)=true:=by simpa using d
   have t2:¬ix-1<(r.js.log.length:Int):=by omega
   change ∀(V:World) (hf:Fr No W2 V),Calls _ _ _ V (fF V (r.answer mf (r.js.log.length:Int) false)) at hS2
   simp only at hL;obtain ⟨ans,nT⟩:∃ans,ans=r.answer mf (r.js.log.length:Int) false:=⟨_,rfl⟩;rw [←nT] at hS2;have hmn:r.answer mf (min (r.js.log.length:Int) (ix-1)) false=ans:=by rw [hmin,nT]
   clear hmin nT;generalize hll:r.js.log.length=ll at*;clear hS h1 h2 h3 hTA hb2 i2 f2 hll;obtain ⟨HS2,HL,HC3,bS,P0⟩:=jr hS2 hL hC3 hfin p0;clear hS2 hL hC3 hfin p0
   go_wp2_with fail
   go_quiet ((go_at_call 56;exact aI (HL.out _ ((Fr.refl No W2).drewN _))))
   have K2:Fr No W2 (W2.drewN nq):=(Fr.refl No W2).drewN nq;have hwr:IntKind.i64.wrap (ix-1)=ix-1:=IntWalk.i64_in _ oy
   go_wp2_with fail
   generalize W2.drewN nq=W3 at*;refine wp_region_held_drew (S:=fun V=>Fr No W2 V∧V.cell? ⟨g,1,none⟩=some (.int .i64 mf)∧V.cell? ⟨g,4,none⟩=some (.int .i64 ix)) (by kernel_rfl) (⟨K2.drew,(HC3.out _ (K2.drew)).2.1,(HC3.out _ (K2.drew)).2.2.2.2.1⟩) (fun hHeld=> ?_);refine I 0 rfl ?_;simp only [Act.put,J];refine I 1 rfl ?_;simp only [Act.put,J];refine I 2 rfl ?_;simp only [Act.put,J];refine I 3 rfl ?_;simp only [Act.put,J];refine I 5 rfl ?_;simp only [Act.put,J];refine I 6 rfl ?_;simp only [Act.put,J];refine I 7 rfl ?_;simp only [Act.put,J];refine wpAnyH_ready (rs:=[4]) (by kernel_rfl) (by simp) (AllReadyH.cons rfl (fun K hK=> ?_) AllReadyH.nil)
   go_simp
   refine (HL.out _ hHeld.1).mono ?_;rintro e w5 ⟨rfl,rfl⟩
   go_wp2_with fail
   clear hHeld;refine hK.out _ _ (⟨K2.drew,(HC3.out _ (K2.drew)).2.1,(HC3.out _ (K2.drew)).2.2.2.2.1⟩) (fun hHeld=> ?_);clear hK K
   try simp only [Act.put,J]
   refine I 8 rfl ?_;simp only [Act.put,J];refine wpAnyH_ready (rs:=[9]) (by kernel_rfl) (by simp) (AllReadyH.cons rfl (fun K hK=> ?_) AllReadyH.nil)
   go_simp
   rw [if_neg (show ¬ix-1<(ll:Int) from by omega)];refine (HS2.out _ hHeld.1).mono ?_;rintro e w6 m6;have M:=O m6;obtain ⟨A5,c5',rfl,m7,q6⟩:=m6;have QW:Fr No W2 w6:=hHeld.1.ah q6;have RR:=O (bS.out _ hHeld.1);clear m7 q6
   go_wp2_with fail
   clear hHeld;refine hK.out _ _ (⟨QW,(HC3.out _ (QW)).2.1,(HC3.out _ (QW)).2.2.2.2.1⟩) (fun hHeld=> ?_);clear hK K
   try simp only [Act.put,J]
   refine I 10 rfl ?_;simp only [Act.put,J];refine wpAnyH_done (by kernel_rfl) ?_ _
   go_wp2_with fail
   go_ret
   rw [hmn];exact aQ.mk' RR.out M.out
  ·have t1:decide ((r.js.log.length:Int)<ix)=false:=by simp;omega
   have t2:decide (0<ix)=true:=by simp;omega
   have t3:(aD r.js.log (ix-1) != pv)=true:=by simpa using d3
   have hmin:min (r.js.log.length:Int) (ix-1)=ix-1:=by omega
   have hS2:=fun V hf=>hS V hf (ix-1)
   change ∀(V:World) (hf:Fr No W2 V),Calls _ _ _ V (fF V (r.answer mf (ix-1) false)) at hS2
   simp only at hL hTA;obtain ⟨ans,nT⟩:∃ans,ans=r.answer mf (ix-1) false:=⟨_,rfl⟩;rw [←nT] at hS2;have hmn:r.answer mf (min (r.js.log.length:Int) (ix-1)) false=ans:=by rw [hmin,nT]
   clear hmin nT;have hwr:IntKind.i64.wrap (ix-1)=ix-1:=IntWalk.i64_in _ oy;generalize aD r.js.log (ix-1)=ta at*;generalize hll:r.js.log.length=ll at*;clear hS h1 h2 h3 hb2 i2 f2 hll;obtain ⟨HS2,HL,HC3,bS,P0,HTA⟩:=lG hS2 hL hC3 hfin p0 hTA;clear hS2 hL hC3 hfin p0 hTA
   go_wp2_with fail
   refine wp_region_held_drew (S:=fun V=>Fr No W2 V∧V.cell? ⟨g,1,none⟩=some (.int .i64 mf)∧V.cell? ⟨g,4,none⟩=some (.int .i64 ix)∧V.cell? ⟨g,5,none⟩=some (.int .i64 pv)∧V.cell? ⟨p,0,none⟩=some (.pointer (some ⟨j,0,none⟩))) (by kernel_rfl) (⟨(Fr.refl No W2).drew,(HC3.out _ ((Fr.refl No W2).drew)).2.1,(HC3.out _ ((Fr.refl No W2).drew)).2.2.2.2.1,(HC3.out _ ((Fr.refl No W2).drew)).2.2.2.2.2.1,P0.out _ ((Fr.refl No W2).drew)⟩) (fun hHeld=> ?_);refine I 0 rfl ?_;simp only [Act.put,J];refine I 1 rfl ?_;simp only [Act.put,J];refine I 2 rfl ?_;simp only [Act.put,J];refine wpAnyH_ready (rs:=[3]) (by kernel_rfl) (by simp) (AllReadyH.cons rfl (fun K hK=> ?_) AllReadyH.nil)
   go_simp
   refine (HL.out _ hHeld.1).mono ?_;rintro e w5 ⟨rfl,rfl⟩;have QV:=O (hHeld.1)
   go_wp2_with fail
   clear hHeld;refine hK.out _ _ (⟨QV.out,(HC3.out _ (QV.out)).2.1,(HC3.out _ (QV.out)).2.2.2.2.1,(HC3.out _ (QV.out)).2.2.2.2.2.1,P0.out _ (QV.out)⟩) (fun hHeld=> ?_);clear hK K QV
   try simp only [Act.put,J]
   refine I 4 rfl ?_;simp only [Act.put,J];refine I 5 rfl ?_;simp only [Act.put,J];refine I 6 rfl ?_;simp only [Act.put,J];refine I 7 rfl ?_;simp only [Act.put,J];refine I 8 rfl ?_;simp only [Act.put,J];refine I 9 rfl ?_;simp only [Act.put,J];refine I 10 rfl ?_;simp only [Act.put,J];refine I 11 rfl ?_;simp only [Act.put,J];refine I 12 rfl ?_;simp only [Act.put,J];refine I 13 rfl ?_;simp only [Act.put,J];refine I 14 rfl ?_;simp only [Act.put,J];refine I 15 rfl ?_;simp only [Act.put,J];refine I 16 rfl ?_;simp only [Act.put,J];refine I 18 rfl ?_;simp only [Act.put,J];refine I 19 rfl ?_;simp only [Act.put,J];refine wpAnyH_ready (rs:=[17]) (by kernel_rfl) (by simp) (AllReadyH.cons rfl (fun K hK=> ?_) AllReadyH.nil)
   go_simp
   try rw [hwr]
   refine (HTA.out _ hHeld.1).mono ?_;rintro e w5 ⟨rfl,q6⟩;have QV:=O (hHeld.1.ah q6)
   go_wp2_with fail
   clear hHeld;refine hK.out _ _ (⟨QV.out,(HC3.out _ (QV.out)).2.1,(HC3.out _ (QV.out)).2.2.2.2.1,(HC3.out _ (QV.out)).2.2.2.2.2.1,P0.out _ (QV.out)⟩) (fun hHeld=> ?_);clear hK K QV
   try simp only [Act.put,J]
   refine I 20 rfl ?_;simp only [Act.put,J];refine I 21 rfl ?_;simp only [Act.put,J];refine I 22 rfl ?_;simp only [Act.put,J];refine wpAnyH_done (by kernel_rfl) ?_ _;have K2:=O hHeld.1;clear hHeld
   go_wp2_with fail
   refine wp_region_held_drew (S:=fun V=>Fr No W2 V∧V.cell? ⟨g,1,none⟩=some (.int .i64 mf)∧V.cell? ⟨g,4,none⟩=some (.int .i64 ix)) (by kernel_rfl) (⟨K2.out.drew,(HC3.out _ (K2.out.drew)).2.1,(HC3.out _ (K2.out.drew)).2.2.2.2.1⟩) (fun hHeld=> ?_);refine I 0 rfl ?_;simp only [Act.put,J];refine I 1 rfl ?_;simp only [Act.put,J];refine I 2 rfl ?_;simp only [Act.put,J];refine I 3 rfl ?_;simp only [Act.put,J];refine I 5 rfl ?_;simp only [Act.put,J];refine I 6 rfl ?_;simp only [Act.put,J];refine I 7 rfl ?_;simp only [Act.put,J];refine wpAnyH_ready (rs:=[4]) (by kernel_rfl) (by simp) (AllReadyH.cons rfl (fun K hK=> ?_) AllReadyH.nil)
   go_simp
   refine (HL.out _ hHeld.1).mono ?_;rintro e w6 ⟨rfl,rfl⟩;have QV:=O (hHeld.1)
   go_wp2_with fail
   clear hHeld;refine hK.out _ _ (⟨QV.out,(HC3.out _ (QV.out)).2.1,(HC3.out _ (QV.out)).2.2.2.2.1⟩) (fun hHeld=> ?_);clear hK K QV
   try simp only [Act.put,J]
   refine I 8 rfl ?_;simp only [Act.put,J];refine wpAnyH_ready (rs:=[9]) (by kernel_rfl) (by simp) (AllReadyH.cons rfl (fun K hK=> ?_) AllReadyH.nil)
   go_simp
   rw [if_pos (show ix-1<(ll:Int) from by omega)];refine (HS2.out _ hHeld.1).mono ?_;rintro e w6 m6;have M:=O m6;obtain ⟨A5,c5',rfl,m7,q6⟩:=m6;have RR:=O (bS.out _ hHeld.1);clear m7;have QV:=O (hHeld.1.ah q6)
   go_wp2_with fail
   clear hHeld;refine hK.out _ _ (⟨QV.out,(HC3.out _ (QV.out)).2.1,(HC3.out _ (QV.out)).2.2.2.2.1⟩) (fun hHeld=> ?_);clear hK K QV
   try simp only [Act.put,J]
   refine I 10 rfl ?_;simp only [Act.put,J];refine wpAnyH_done (by kernel_rfl) ?_ _
   go_wp2_with fail
   go_ret
   rw [hmn];exact aQ.mk' RR.out M.out
end
end Go.Proofs.YtjnfmfmglehmbaaGreat
