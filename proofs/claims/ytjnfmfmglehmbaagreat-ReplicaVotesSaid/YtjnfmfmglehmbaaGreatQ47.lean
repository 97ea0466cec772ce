/-
  The reference's replica: an append message whose entries are taken, behind a cut.
-/
import Derived.Test.YtjnfmfmglehmbaaGreatQ44
namespace Go.Proofs.YtjnfmfmglehmbaaGreat
open Go.ChangeShapes Go.WideShapes Go.ChangeAt Go.RowKit
set_option linter.unusedVariables false
set_option maxRecDepth 100000
set_option maxHeartbeats 4000000
section
variable {w w' w1:World}{F G Fj F' :Nat→Prop}{p:Nat}{r r' :Rs}{n m:Nat}{V X M V' X' M' :Value}{bs xs ms bs' xs' ms' :List Value}
set_option maxHeartbeats 16000000 in
theorem aby (h:bR w F p r n)(m:Ms)(A:Option Addr)(c:Nat)(hm:bH r m)(hk:m.kind=3)(ht:m.term≤r.js.term)(hE:Ent w G (.slice A m.es.length c) m.es)(hGF:∀i,G i→¬F i)(hes:∀x∈m.es,x.e.ok)(hN1:¬m.term<r.js.term)(hN2:¬r.role=3)(hN3:r.fits m=true)(hsz:n+600000≤140737488355328)(hK:aX r.js.log m.index.toNat m.es<m.es.length∧¬m.index.toNat+aX r.js.log m.index.toNat m.es<r.commit)(hL:m.index.toNat+aX r.js.log m.index.toNat m.es<r.js.log.length):Calls Tryz.prog 108 #[.pointer (some ⟨p,0,none⟩),m.v (.slice A m.es.length c)] w (aH w F p (r.aK m) (n+600000)):=by
 have hok:=h.ok;have hok2:=hok.aK hm hk ht hes;have agd:=hm.i0;have agc:=hm.i1;have hpa:=fB (hm.a hk);have am8:=hpa.2.1;have hcm0:=hm.c0;have hcm1:=hm.c1;have qL:=hok.com;have lK:=hok.log.few;have hM:=hE.rd.2.2.2.1;have hM2:=hE.rd.2.2.1;unfold maxLen at hM;have htl:=jv hok hm hk oy hN3;have hml:=iL r.js.log m.es m.index.toNat;have hpos:∀x∈m.es,1≤x.term:=fun x hx=>by
  have:=gI m.es _ hpa.2.2 x hx
  omega
 have hix:m.index≤r.js.log.length∧(m.index=0∨(0<m.index∧aD r.js.log (m.index-1)=m.prev)):=by
  unfold Rs.fits at hN3;simp only [decide_eq_true_eq] at hN3;refine ⟨hN3.1,?_⟩
  rcases hN3.2 with a|a
  ·exact .inl a
  ·by_cases b:m.index=0
   ·exact .inl b
   ·exact .inr ⟨by omega,a⟩
 obtain ⟨OV,hOV⟩:∃OV,OV=r.aK m:=⟨_,rfl⟩;obtain ⟨C,hC0⟩:∃C,C=max r.commit (min m.commit.toNat (m.index.toNat+m.es.length)):=⟨_,rfl⟩;obtain ⟨ans,nT⟩:∃ans,ans=r.answer m.from_ (m.index+m.es.length) true:=⟨_,rfl⟩;have hov:=hOV;unfold Rs.aK at hov;rw [if_neg hN1,if_neg hN2,if_neg (by rw [hN3];simp),←hC0,←nT] at hov;rw [←hOV] at hok2 ⊢;have q1:∀k:Nat,aX r.js.log m.index.toNat m.es=k→k<m.es.length→m.index.toNat+k<r.commit→OV=({r with role:=1},[]):=by
  intro k e1 e2 e3;rw [hov,e1,if_pos e2,if_pos e3]
 have q2:∀k:Nat,aX r.js.log m.index.toNat m.es=k→k<m.es.length→¬m.index.toNat+k<r.commit→OV=({r with role:=1,js:=replaceS r.js (m.index.toNat+k) (m.es.drop k),commit:=C},ans)∧bU {r with role:=1,js:=replaceS r.js (m.index.toNat+k) (m.es.drop k)}∧m.index.toNat+k≤r.js.log.length∧C≤(replaceS r.js (m.index.toNat+k) (m.es.drop k)).log.length∧(replaceS r.js (m.index.toNat+k) (m.es.drop k)).term=r.js.term:=by
  intro k e1 e2 e3;have e4:OV=({r with role:=1,js:=replaceS r.js (m.index.toNat+k) (m.es.drop k),commit:=C},ans):=by rw [hov,e1,if_pos e2,if_neg e3]
  rw [e4] at hok2;have h1:=hok2.com;simp only at h1;have h2:=htl.2 oy;rw [e1] at h2;exact ⟨e4,⟨hok2.log,hok2.lo,hok2.hi,hok2.vlo,hok2.vhi,hok.idn,hok.five,.inl rfl,by simp only;omega,hok.vts,fun hh=>by simp at hh,fun hh=>by simp at hh⟩,by omega,h1,by rw [h2]⟩
 have q3:aX r.js.log m.index.toNat m.es=m.es.length→OV=({r with role:=1,commit:=C},ans)∧C≤r.js.log.length:=by
  intro e1;have e4:OV=({r with role:=1,commit:=C},ans):=by rw [hov,if_neg oy]
  rw [e4] at hok2;exact ⟨e4,hok2.com⟩
 have zA:∀r' :Rs,r'.id=r.id→r'.js.term=r.js.term→r'.answer m.from_ (m.index+m.es.length) true=ans:=by
  intro r' e1 e2;rw [nT];unfold Rs.answer;rw [e1,e2]
 have hM0:=bQ.zero r.js.log m.es m.index.toNat;clear hov hOV nT htl hml hok2 hm hk hN3 hpa;obtain ⟨kd,mf,mto,mt,ix,pv,cm,ok,es⟩:=m;simp only at*;obtain ⟨i,rfl⟩:∃i:Nat,ix=i:=⟨ix.toNat,by omega⟩;obtain ⟨mc,rfl⟩:∃mc:Nat,cm=mc:=⟨cm.toNat,by omega⟩;simp only [Int.toNat_natCast] at hC0 hM0 q1 q2 q3 hK hL;obtain ⟨HL,HK⟩:=aO hL hK;clear hL hK;have hcv:(if (r.commit:Int)<(if (i:Int)+(es.length:Int)<(mc:Int) then (i:Int)+(es.length:Int) else (mc:Int)) then (if (i:Int)+(es.length:Int)<(mc:Int) then (i:Int)+(es.length:Int) else (mc:Int)) else (r.commit:Int))=(C:Int):=by rw [hC0];split<;>split<;>omega
 have hel:es.length≤4096:=by omega
 have hil:i≤4096:=by omega
 obtain ⟨W0,hW0⟩:∃W0,W0=w.alloc (.cells (cZ kd mf mto mt i pv mc ok (.slice A es.length c)) TMs):=⟨_,rfl⟩;have hf0:Fr No w W0:=by rw [hW0];exact aj _ _
 obtain ⟨g,hg⟩:∃g,g=w.heap.size:=⟨_,rfl⟩;have hb:Blk W0 g TMs (cZ kd mf mto mt i pv mc ok (.slice A es.length c)):=by rw [hW0,hg];exact Blk.new _ _ _
 have hgF:¬F g:=fun hh=>by have:=h.lt g hh;omega
 have hgp:g≠p:=fun hh=>hgF (hh▸h.lC);have u1:decide (mt<r.js.term)=false:=by simpa using hN1
 have u2:(r.role == 3)=false:=by simpa using hN2
 obtain ⟨j,AL,cL,-,-,-,hcl⟩:=h.views;obtain ⟨⟨a0,-,a3,-⟩,⟨f3,-⟩,b1,-⟩:=hcl _ hf0;have c3:W0.cell? ⟨g,3,none⟩=some (.int .i64 mt):=hb.cell 3;have jl:=fun W (hf:Fr No W0 W)=>(h.ak (hf0.ah hf)).lQ;have hCp:∀W W2,Fr No W0 W→W2=W.setCell ⟨p,3,none⟩ (.int .i64 1)→Blk W2 g TMs (cZ kd mf mto mt i pv mc ok (.slice A es.length c)):=fun W W2 hf he=>by rw [he];exact (hb.fr hf id).aF hgp _
 have hEp:∀W W2,Fr No W0 W→W2=W.setCell ⟨p,3,none⟩ (.int .i64 1)→Ent W2 (fun i=>G i∧i<w.heap.size) (.slice A es.length c) es:=fun W W2 hf he=>by
  rw [he];exact (hE.lt.ak (hf0.ah hf)).fr (dx _ ⟨p,3,none⟩ _) fun k hk hh=>hGF k hk.1 (hh▸h.lC)
 have ana:=hb.lt;clear h hok hb hE hcl;obtain ⟨HW0,HF0,HG,jM,HCP,HEP,Q1,Q2,Q3,ae0,HM0,HC0⟩:=gY hW0 hf0 hg jl hCp hEp q1 q2 q3 zA hM0 hC0;obtain ⟨HCV,HES,HGF,aew⟩:=fK hcv hes hGF hpos;clear hW0 hf0 hg jl hCp hEp q1 q2 q3 zA hM0 hC0 hcv hes hGF hpos
 go_in
 go_upto_region 1 with fail
 rw [←HG.out,←HW0.out]
 go_wp2_with fail
 go_quiet (fail)
 go_upto_region 6 with fail
 obtain ⟨W2,hW2⟩:∃W2,W2=(W0.drewN nq).setCell ⟨p,3,none⟩ (.int .i64 1):=⟨_,rfl⟩;rw [←hW2];have hr2:=jM.out _ ((Fr.refl No W0).drewN nq);rw [←hW2] at hr2;have hb2:=HCP.out _ W2 ((Fr.refl No W0).drewN nq) hW2;have hE2:=HEP.out _ W2 ((Fr.refl No W0).drewN nq) hW2;clear hW2 a0 a3 f3 b1 c3 jM HCP HEP;obtain ⟨G2,a2,i2,f2⟩:=hr2;have HWX:Fr No w (W0.drewN nq):=HF0.out.drewN nq;have hg2:¬G2 g:=fun hh=>by
  rcases i2 g hh with hh2|hh2
  ·exact hgF hh2
  ·have:W0.heap.size≤g:=hh2
   omega
 have sZ:∀i,(G i∧i<w.heap.size)→¬G2 i:=fun i hi hh=>by
  rcases i2 i hh with hh2|hh2
  ·exact HGF.out i hi.1 hh2
  ·have h1:W0.heap.size≤i:=hh2
   have h2:=HF0.out.size
   omega
 have hfin:=fun r' N V (hr:bY W2 G2 p r' N V)=>(bY.after HWX (bY.then f2 i2 hr):bY w F p r' N V);have a2' :=a2;obtain ⟨jp,Fj,Vp,Xp,Mp,bsp,xsp,msp,h1,h2,h3,h4,h5,h6,h7,-⟩:=a2';have hjr:∀s' N,bU {r with role:=1,js:=s'}→∀W,dU true W2 Fj jp s' N W→bY W2 G2 p {r with role:=1,js:=s'} N W:=fun s' N hr W hj=>bR.jrn (r:={r with role:=1}) h1 h2 h4 h5 h6 h7 hj hr;obtain ⟨j2,AV,c2,e1,e2,hTA,hcl⟩:=a2.views;have hjj:jp=j2:=by
  have x:=h1.cell 0;have y:=(hcl W2 (Fr.refl _ _)).1.1;rw [y] at x;injection x with x;injection x with x;injection x with x;injection x with x;exact x.symm
 subst hjj;have hRG:RG true W2 Fj jp r.js n:=h3;have hPF:∀W,Fr Fj W2 W→W.cell? ⟨p,0,none⟩=some (.pointer (some ⟨jp,0,none⟩)):=fun W hf=>(h1.fr hf h5).cell 0;have ad4:=h4;clear h1 h2 h3 h4 h5 h6 h7;unfold maxLen at e2;have hS6:∀V,Fr No W2 V→(V.cell? ⟨g,4,none⟩=some (.int .i64 (i:Int))∧V.cell? ⟨g,5,none⟩=some (.int .i64 pv)∧V.cell? ⟨g,8,none⟩=some (.slice A es.length c)∧V.cell? ⟨p,0,none⟩=some (.pointer (some ⟨jp,0,none⟩))∧V.cell? ⟨p,4,none⟩=some (.int .i64 (r.commit:Int))∧V.cell? ⟨jp,3,none⟩=some (.slice AV r.js.log.length c2)):=fun V hf=>by
  obtain ⟨⟨y0,-,-,y4⟩,-,-,y3⟩:=hcl V hf;have q:=hb2.fr hf id;exact ⟨q.cell 4,q.cell 5,q.cell 8,y0,y4,y3⟩
 change ∀(W:World),Fr No W2 W→∀(i:Int),Calls _ _ _ W (fun e w' =>e= .returned (.int .i64 (aD r.js.log i))∧Fr No W w') at hTA
 obtain ⟨I2,F2,HB2,HE2,HG2,aex,bS,HTA,HS6,A2,HJR,HRG⟩:=gY i2 f2 hb2 hE2 hg2 sZ hfin hTA hS6 a2 hjr hRG;obtain ⟨HPF,ajy⟩:=aO hPF ad4;clear i2 f2 hb2 hE2 hg2 sZ hfin hTA hS6 a2 hjr hRG hPF ad4;clear hcl
 go_upto_region 6 with fail
 go_cut [56] (fun x wx=>x= .bool false∧Fr No W2 wx)
 case first=>
  obtain ⟨y4,y5,y8,y0,yc,y3⟩:=HS6.out _ (Fr.refl No W2);obtain ⟨z4,z5,z8,z0,zc,z3⟩:=HS6.out _ (Fr.refl No W2).drew
  rcases hix with ⟨x1,x2|⟨x2,x3⟩⟩
  ·have t1:decide (r.js.log.length<i)=false:=dff
   have t1' :decide ((r.js.log.length:Int)<(i:Int))=false:=dff;have t2:decide (0<i)=false:=dff;have t2' :decide ((0:Int)<(i:Int))=false:=dff;clear x2 z4 z5 z8 z0 zc z3
   go_wp2_with fail
   go_quiet (fail)
   go_wp2_with fail
   go_meet
   exact ⟨rfl,frz⟩
  ·have t1:decide (r.js.log.length<i)=false:=dff
   have t1' :decide ((r.js.log.length:Int)<(i:Int))=false:=dff;have t2:decide (0<i)=true:=dtt;have t2' :decide ((0:Int)<(i:Int))=true:=dtt;have hwr:IntKind.i64.wrap ((i:Int)-1)=(i:Int)-1:=IntWalk.i64_in _ oy;have t4:(aD r.js.log ((i:Int)-1) != pv)=false:=by simpa using x3
   have hT1:=fun V (hf:Fr No W2 V)=>HTA.out V hf ((i:Int)-1);generalize aD r.js.log ((i:Int)-1)=pt at*;clear x3;have HT1:=O hT1;clear hT1
   go_wp2_with fail
   go_region_held3 (fun V=>V.cell? ⟨g,4,none⟩=some (.int .i64 (i:Int))∧V.cell? ⟨g,5,none⟩=some (.int .i64 pv)∧V.cell? ⟨g,8,none⟩=some (.slice A es.length c)∧V.cell? ⟨p,0,none⟩=some (.pointer (some ⟨jp,0,none⟩))∧V.cell? ⟨p,4,none⟩=some (.int .i64 (r.commit:Int))∧V.cell? ⟨jp,3,none⟩=some (.slice AV r.js.log.length c2)) (first|exact ⟨z4,z5,z8,z0,zc,z3⟩|exact HS6.out _ frz) (first
    |(go_at_call 110;refine (HT1.out _ frz).mono ?_;rintro e w3 ⟨rfl,f3⟩;have P3:Fr No W2 w3:=Fr.ah frz f3;clear f3))
   all_goals
    go_wp2_with fail
    go_meet
    exact ⟨rfl,frz⟩
 case rest=>
  obtain ⟨rfl,K2⟩:=hcut;clear hix
  go_upto_block 0 with fail
  go_cut [5] (fun kv wx=>∃k:Nat,kv= .int .i64 k∧aX r.js.log i es=k∧k≤es.length∧Fr No W2 wx)
  case first=>
   clear HK HL
   go_wp2_with fail
   go_loopw [5] (fun kv wr=>∃k:Nat,kv= .int .i64 k∧bQ r.js.log es i k∧Fr No W2 wr) (fun kv _=>es.length-(intOf kv).toNat)
   case atStart=>exact ⟨0,rfl,HM0.out,K2⟩
   case round=>
    clear K2;obtain ⟨k,rfl,hma,hf⟩:=hrel;have hkl:=hma.1;obtain ⟨y4,y5,y8,y0,yc,y3⟩:=HS6.out _ hf
    by_cases hlt:k<es.length
    case neg=>
     obtain rfl:k=es.length:=by omega
     have d1:decide (es.length<es.length)=false:=by simp
     have d2:decide ((es.length:Int)<(es.length:Int))=false:=by simp
     obtain ⟨T,HF⟩:=aO (hma.done rfl) hf;clear hma hf
     go_wp2_with fail
     go_quiet (fail)
     go_wp2_with fail
     go_meet
     exact ⟨es.length,rfl,T.out,Nat.le_refl _,HF.out.drewN _⟩
    have d1:decide (k<es.length)=true:=decide_eq_true hlt;have d2:decide ((k:Int)<(es.length:Int))=true:=dtt;have hwr:IntKind.i64.wrap ((i:Int)+(k:Int))=(i:Int)+(k:Int):=IntWalk.i64_in _ oy;obtain ⟨b,off,x,rfl,hx,hcs⟩:=HE2.out.at_ (i:=k) hlt;have hp1:=aew.out x (List.mem_of_getElem? hx)
    by_cases hin:i+k<r.js.log.length
    case neg=>
     have t1:decide (i+k<r.js.log.length)=false:=decide_eq_false hin;have t2:decide ((i:Int)+(k:Int)<(r.js.log.length:Int))=false:=dff;obtain ⟨T,HF⟩:=aO (hma.stop hx (by rw [iE oy];omega)) hf;clear hma hf hcs hx hin
     go_wp2_with fail
     go_quiet (fail)
     go_wp2_with fail
     go_meet
     exact ⟨k,rfl,T.out,hkl,HF.out.drewN _⟩
    have t1:decide (i+k<r.js.log.length)=true:=decide_eq_true hin;have t2:decide ((i:Int)+(k:Int)<(r.js.log.length:Int))=true:=dtt;have hT1:=fun V (hV:Fr No wr V)=>HTA.out V (hf.ah hV) ((i:Int)+(k:Int));have hSS:∀V,Fr No wr V→(V.cell? ⟨g,4,none⟩=some (.int .i64 (i:Int))∧V.cell? ⟨g,8,none⟩=some (.slice (some ⟨b,off,none⟩) es.length c)∧V.cell? ⟨p,0,none⟩=some (.pointer (some ⟨jp,0,none⟩))∧V.cell? ⟨jp,3,none⟩=some (.slice AV r.js.log.length c2)∧V.cell? ⟨b,off+k*10,none⟩=some (.int .i64 x.term)):=fun V hV=>by
     obtain ⟨y4,y5,y8,y0,yc,y3⟩:=HS6.out _ (hf.ah hV);exact ⟨y4,y8,y0,y3,(hcs V (hf.ah hV)).1⟩
    have hnext:=fun e=>bQ.next hma hx e;have hstop:=fun e=>bQ.stop hma hx e;rw [show ((i+k:Nat):Int)=(i:Int)+(k:Int) from by omega] at hnext hstop;obtain ⟨xt,xe⟩:=x;simp only at hSS hnext hstop;have hd:=hSS _ (Fr.refl No wr).drew;have HF:=O hf;have he1:=(hSS _ (Fr.refl No wr)).2.2.2.2;clear hma hf hcs hx hp1
    by_cases he:aD r.js.log ((i:Int)+(k:Int))=xt
    ·have heq:(aD r.js.log ((i:Int)+(k:Int)) == xt)=true:=by simpa using he
     have T:=O (hnext he);generalize aD r.js.log ((i:Int)+(k:Int))=pt at*;clear he hnext hstop;obtain ⟨HT1,HSS⟩:=aO hT1 hSS;clear hT1 hSS
     go_wp2_with fail
     go_region_held3 (fun V=>V.cell? ⟨g,4,none⟩=some (.int .i64 (i:Int))∧V.cell? ⟨g,8,none⟩=some (.slice (some ⟨b,off,none⟩) es.length c)∧V.cell? ⟨p,0,none⟩=some (.pointer (some ⟨jp,0,none⟩))∧V.cell? ⟨jp,3,none⟩=some (.slice AV r.js.log.length c2)∧V.cell? ⟨b,off+k*10,none⟩=some (.int .i64 xt)) (first|exact hd|exact HSS.out _ frz) (first
      |(go_at_call 110;refine (HT1.out _ frz).mono ?_;rintro e w3 ⟨rfl,f3⟩;have P3:Fr No wr w3:=Fr.ah frz f3;clear f3))
     all_goals
      go_wp2_with fail
      go_roundw
      case rel=>exact ⟨k+1,by go_num,T.out,HF.out.ah frz⟩
      case measure=>simp [intOf];omega
    ·have heq:(aD r.js.log ((i:Int)+(k:Int)) == xt)=false:=by simpa using he
     have T:=O (hstop he);generalize aD r.js.log ((i:Int)+(k:Int))=pt at*;clear he hnext hstop;obtain ⟨HT1,HSS⟩:=aO hT1 hSS;clear hT1 hSS
     go_wp2_with fail
     go_region_held3 (fun V=>V.cell? ⟨g,4,none⟩=some (.int .i64 (i:Int))∧V.cell? ⟨g,8,none⟩=some (.slice (some ⟨b,off,none⟩) es.length c)∧V.cell? ⟨p,0,none⟩=some (.pointer (some ⟨jp,0,none⟩))∧V.cell? ⟨jp,3,none⟩=some (.slice AV r.js.log.length c2)∧V.cell? ⟨b,off+k*10,none⟩=some (.int .i64 xt)) (first|exact hd|exact HSS.out _ frz) (first
      |(go_at_call 110;refine (HT1.out _ frz).mono ?_;rintro e w3 ⟨rfl,f3⟩;have P3:Fr No wr w3:=Fr.ah frz f3;clear f3))
     all_goals
      go_wp2_with fail
      go_meet
      exact ⟨k,rfl,T.out,hkl,HF.out.ah frz⟩
  case rest=>
   clear K2 HM0 aew HTA;obtain ⟨k,rfl,hmk,hkl,hfc⟩:=hcut;have hwr:IntKind.i64.wrap ((i:Int)+(k:Int))=(i:Int)+(k:Int):=IntWalk.i64_in _ oy;obtain ⟨y4,y5,y8,y0,yc,y3⟩:=HS6.out _ hfc;obtain ⟨x1,x2⟩:k<es.length∧¬i+k<r.commit:=by rw [←hmk];exact HK.out
   obtain ⟨r2,ai1⟩:∃r2:Rs,r2={r with role:=1,js:=replaceS r.js (i+k) (es.drop k)}:=⟨_,rfl⟩;obtain ⟨-,z2,z3,-,-⟩:=Q2.out k hmk x1 x2;have d1:decide (k<es.length)=true:=decide_eq_true x1;have d2:decide ((k:Int)<(es.length:Int))=true:=dtt;have d3:decide (i+k<r.commit)=false:=decide_eq_false x2;have d4:decide ((i:Int)+(k:Int)<(r.commit:Int))=false:=dff;have HFC:=O hfc;have ko:OV=({r2 with commit:=C},ans)∧C≤r2.js.log.length∧r2.id=r.id∧r2.js.term=r.js.term∧r2.commit=r.commit:=by
    obtain ⟨z1,z2,z3,z4,z5⟩:=Q2.out k hmk x1 x2;rw [ai1];exact ⟨z1,z4,rfl,z5,rfl⟩
   have alm:=hmk;clear hmk Q1 Q2 Q3;obtain ⟨aow,Z2,wL⟩:=bP ai1 z2 ko;clear ai1 z2 ko
   go_wp2_with fail
   go_quiet (fail)
   have K3:=O (HFC.out.drewN nq);clear y4 y5 y8 y0 yc y3 HFC hfc;generalize wc.drewN nq=W3 at*;obtain ⟨y4,y5,y8,y0,yc,y3⟩:=HS6.out _ K3.out;obtain ⟨s1,hs1⟩:∃s1:Js,s1=if i+k<r.js.log.length then ⟨r.js.term,r.js.cu,r.js.log.take (i+k)⟩ else r.js:=⟨_,rfl⟩
   have hrep:replaceS r.js (i+k) (es.drop k)=bO s1 (es.drop k):=by rw [hs1];rfl
   have adz:i+k<r.js.log.length→∀W,Fr No W2 W→Calls Tryz.prog 149 #[.pointer (some ⟨jp,0,none⟩),.int .i64 ((i:Int)+(k:Int))] W fun e w' =>e= .returned (.int .i64 0)∧dU false W2 Fj jp s1 (n+38) w' :=fun hlt W hf=>by
    have hx0:jg r.js ((i:Int)+(k:Int))=0:=by unfold jg;rw [if_neg oy]
    have hs2:jP r.js ((i:Int)+(k:Int))=s1:=by
     rw [hs1,if_pos hlt];unfold jP;rw [if_pos hx0,show ((i:Int)+(k:Int)).toNat=i+k from by omega]
    have hc:=aha (HRG.out.ak hf) ((i:Int)+(k:Int)) oy;rw [hx0,hs2] at hc;exact hc.mono fun e w' ⟨x1,x2⟩=>⟨x1,dU.after hf x2⟩
   have hsame:¬i+k<r.js.log.length→∀W,Fr No W2 W→dU false W2 Fj jp s1 (n+38) W:=fun hlt W hf=>by
    rw [hs1,if_neg hlt];exact ((HRG.out.weak).more oy).still hf
   clear hs1;obtain ⟨ag3,kG,qY⟩:=bP adz hsame hrep;clear adz hsame hrep;have hcu:i+k<r.js.log.length:=by rw [←alm];exact HL.out
   have tcu:decide (i+k<r.js.log.length)=true:=decide_eq_true hcu;have tcv:decide ((i:Int)+(k:Int)<(r.js.log.length:Int))=true:=dtt;have hcc:=ag3.out hcu;clear alm kG ag3 HL HK;have HCC:=O hcc;clear hcc
   go_wp2_with fail
   go_quiet (fail)
   have K4:=K3.out.drewN nq;clear y4 y5 y8 y0 yc y3 K3;generalize W3.drewN nq=W4 at*;obtain ⟨y4,y5,y8,y0,yc,y3⟩:=HS6.out _ K4
   go_upto_region 15 with fail
   go_cut [] (fun wx=>dU false W2 Fj jp s1 (n+38) wx)
   case first=>
    go_wp2_with fail
    go_region_with ((go_at_call 149;refine (HCC.out _ frz).mono ?_;rintro e w5 ⟨rfl,t5⟩;have T5:=O t5;clear t5))
    all_goals
     go_wp2_with fail
     go_meet
     exact T5.out
   case rest=>
    clear HCC;have xV:=hcut;have hwc:True:=trivial;clear K4 y4 y5 y8 y0 yc y3;have hgJ:¬Fj g:=fun hh=>HG2.out (ajy.out g hh);have hGJ:∀k,(G k∧k<w.heap.size)→¬Fj k:=fun k hk hh=>aex.out k hk (ajy.out k hh);have h8:∀V,Fr Fj W2 V→V.cell? ⟨g,8,none⟩=some (.slice A es.length c):=fun V hf=>(HB2.out.fr hf hgJ).cell 8;have hbg:∀V,Fr Fj W2 V→Blk V g TMs (cZ kd mf mto mt i pv mc ok (.slice A es.length c)):=fun V hf=>HB2.out.fr hf hgJ;have ai6:Fr Fj W2 wc:=(let ⟨_,_,_,q⟩:=xV;q);have y0:=HPF.out _ ai6;have y8:=h8 _ ai6;clear ai6;obtain ⟨H8,HBG,HGJ⟩:=bP h8 hbg hGJ;clear h8 hbg hGJ
    go_wp2_with fail
    go_loopw [5] (fun kv wr=>∃q:Nat,kv= .int .i64 q∧k≤q∧q≤es.length∧dU false W2 Fj jp (bO s1 ((es.drop k).take (q-k))) (n+38+128*(q-k)) wr) (fun kv _=>es.length-(intOf kv).toNat)
    case atStart=>exact ⟨k,rfl,Nat.le_refl _,hkl,by rw [Nat.sub_self,List.take_zero];exact xV⟩
    case round=>
     clear y0 y8 xV;obtain ⟨q,rfl,hkq,hql,G1,a1,i1,f1⟩:=hrel;have y0:=HPF.out _ f1
     by_cases hlt:q<es.length
     ·have d1:decide (q<es.length)=true:=decide_eq_true hlt
      have d2:decide ((q:Int)<(es.length:Int))=true:=dtt;have d3:(q:Int)<(es.length:Int):=by omega
      obtain ⟨b,off,x,rfl,hx,hcs⟩:=HE2.out.atF (i:=q) hlt;have hxm:=HES.out x (List.mem_of_getElem? hx);have hstep:bO s1 ((es.drop k).take (q+1-k))=gT (bO s1 ((es.drop k).take (q-k))) x.term x.e:=by
       rw [show q+1-k=(q-k)+1 from by omega,List.take_add_one,List.getElem?_drop,show k+(q-k)=q from by omega,hx];unfold bO;rw [List.foldl_append]
       rfl
      have happ:=fun W (hf:Fr No wr W)=>pY (a1.ak hf) x.term x.e hxm oy;rw [←hstep] at happ;have kg:=fun W W' (hf:Fr No wr W) (hj:dU false W G1 jp (bO s1 ((es.drop k).take (q+1-k))) (n+38+128*(q-k)+128) W')=>(dU.then f1 i1 (dU.after hf hj):dU false W2 Fj jp (bO s1 ((es.drop k).take (q+1-k))) (n+38+128*(q-k)+128) W');have hSS:∀V,Fr Fj W2 V→(V.cell? ⟨p,0,none⟩=some (.pointer (some ⟨jp,0,none⟩))∧V.cell? ⟨g,8,none⟩=some (.slice (some ⟨b,off,none⟩) es.length c)∧V.cell? ⟨b,off+q*10,none⟩=some (.int .i64 x.term)∧V.cell? ⟨b,off+q*10+1,none⟩=some (.int .i64 x.e.kind)∧V.cell? ⟨b,off+q*10+2,none⟩=some (.int .i64 x.e.tick)∧V.cell? ⟨b,off+q*10+3,none⟩=some (.int .i64 x.e.aS)∧V.cell? ⟨b,off+q*10+4,none⟩=some (.int .i64 x.e.cell)∧V.cell? ⟨b,off+q*10+5,none⟩=some (.int .i64 x.e.other)∧V.cell? ⟨b,off+q*10+6,none⟩=some (.int .i64 x.e.epoch)∧V.cell? ⟨b,off+q*10+7,none⟩=some (.int .i64 x.e.from_)∧V.cell? ⟨b,off+q*10+8,none⟩=some (.int .i64 x.e.bA)∧V.cell? ⟨b,off+q*10+9,none⟩=some (.int .i64 x.e.n)):=fun V hf=>⟨HPF.out V hf,H8.out V hf,hcs Fj V hf HGJ.out⟩;have hS2:=fun V (hf:Fr No wr V)=>hSS V (f1.trans hf fun _ h=>h.elim);have hS3:=fun W' (hj:dU false W2 Fj jp (bO s1 ((es.drop k).take (q+1-k))) (n+38+128*(q-k)+128) W')=>hSS W' (let ⟨_,_,_,z⟩:=hj;z);obtain ⟨t,⟨k0,tick,te,ce,ot,ep,fr,un,nn⟩⟩:=x;unfold En.v at happ;simp only at happ hS2 hS3;have hd:=hS2 _ (Fr.refl No wr).drew;have y8:=(hS2 _ (Fr.refl No wr)).2.1;clear hx hxm hstep hcs a1 i1 f1 hSS;obtain ⟨wQ,oQ,HS2,HS3⟩:=fK happ kg hS2 hS3
      clear happ kg hS2 hS3
      go_wp2_with fail
      go_region_held3 (fun V=>V.cell? ⟨p,0,none⟩=some (.pointer (some ⟨jp,0,none⟩))∧V.cell? ⟨g,8,none⟩=some (.slice (some ⟨b,off,none⟩) es.length c)∧V.cell? ⟨b,off+q*10,none⟩=some (.int .i64 t)∧V.cell? ⟨b,off+q*10+1,none⟩=some (.int .i64 k0)∧V.cell? ⟨b,off+q*10+2,none⟩=some (.int .i64 tick)∧V.cell? ⟨b,off+q*10+3,none⟩=some (.int .i64 te)∧V.cell? ⟨b,off+q*10+4,none⟩=some (.int .i64 ce)∧V.cell? ⟨b,off+q*10+5,none⟩=some (.int .i64 ot)∧V.cell? ⟨b,off+q*10+6,none⟩=some (.int .i64 ep)∧V.cell? ⟨b,off+q*10+7,none⟩=some (.int .i64 fr)∧V.cell? ⟨b,off+q*10+8,none⟩=some (.int .i64 un)∧V.cell? ⟨b,off+q*10+9,none⟩=some (.int .i64 nn)) (first|exact hd|exact w3s|exact HS2.out _ frz) (first
       |(go_at_call 94;refine (wQ.out _ frz).mono ?_;rintro e w5 ⟨rfl,j5⟩;have t5:=oQ.out _ _ frz j5;have w3s:=HS3.out _ t5;have T5:=O t5;clear j5 t5))
      all_goals
       go_wp2_with fail
       go_roundw
       case rel=>exact ⟨q+1,by go_num,by omega,by omega,T5.out.more oy⟩
       case measure=>simp [intOf];omega
     ·obtain rfl:q=es.length:=by omega
      have d1:decide (es.length<es.length)=false:=by simp
      have d2:decide ((es.length:Int)<(es.length:Int))=false:=by simp
      have y8:=H8.out _ f1;have htk:(es.drop k).take (es.length-k)=es.drop k:=List.take_of_length_le (by rw [List.length_drop];omega);rw [htk,←qY.out] at a1;have hsy:=uh a1;have hend:=fun W (hj:dU true wr G1 jp (replaceS r.js (i+k) (es.drop k)) (n+38+128*(es.length-k)) W)=>((dU.then f1 i1 hj).more (m:=n+600000) oy:dU true W2 Fj jp (replaceS r.js (i+k) (es.drop k)) (n+600000) W);clear a1 i1 f1 htk;obtain ⟨HSY,dZ⟩:=aO hsy hend;clear hsy hend
      go_wp2_with fail
      refine HSY.out.mono ?_;rintro e w6 ⟨rfl,j6⟩;have t6:=dZ.out _ j6;have alu:bY w F p r2 (n+600000) w6:=by rw [aow.out];exact bS.out _ _ _ (HJR.out _ _ Z2.out _ t6)
      have hb3:Blk w6 g TMs (cZ kd mf mto mt i pv mc ok (.slice A es.length c)):=HBG.out _ (let ⟨_,_,_,z⟩:=t6;z);have ko:=wL.out;clear j6 t6 y0 y8 wL HSY dZ;obtain ⟨F3,a3,i3,f3⟩:=alu;obtain ⟨x1,x2,x3,x4,x5⟩:=ko;obtain ⟨j3,A3,c3,-,-,-,hs3⟩:=a3.views;obtain ⟨⟨-,-,-,z4⟩,⟨-,zf4⟩,-⟩:=hs3 w6 (Fr.refl _ _);rw [x5] at z4;have b4:w6.cell? ⟨g,4,none⟩=some (.int .i64 (i:Int)):=hb3.cell 4;have b6:w6.cell? ⟨g,6,none⟩=some (.int .i64 (mc:Int)):=hb3.cell 6;have b8:w6.cell? ⟨g,8,none⟩=some (.slice A es.length c):=hb3.cell 8;have hcm:=a3.commits C x2;have han:=ae0.out {r2 with commit:=C} x3 x4;clear hs3 x2 x3 x4 x5 a3;obtain ⟨HCM,HB3,X1,I3,F3,HAN⟩:=lG hcm hb3 x1 i3 f3 han;clear hcm hb3 x1 i3 f3 han
      go_wp2_with fail
      go_region
      all_goals
       rw [HCV.out];generalize (if (i:Int)+(es.length:Int)<(mc:Int) then (i:Int)+(es.length:Int) else (mc:Int))=mn;obtain ⟨W4,hW4⟩:∃W4,W4=(w6.setCell ⟨p,4,none⟩ (.int .i64 (C:Int))).drew:=⟨_,rfl⟩;rw [←hW4];have t4:=HCM.out.quiet (Fr.refl _ _).drew;rw [←hW4] at t4;have hb4:Blk W4 g TMs (cZ kd mf mto mt i pv mc ok (.slice A es.length c)):=by rw [hW4];exact (HB3.out.aF hgp _).dA
       clear hW4 z4 zf4 b4 b6 b8;obtain ⟨F5,a5,i5,f5⟩:=t4;have zy:=jS a5 ⟨kd,mf,mto,mt,i,pv,mc,ok,es⟩ (.slice A es.length c) ((i:Int)+(es.length:Int)) true
       change Calls _ _ _ _ (fF W4 (({r2 with commit:=C}:Rs).answer mf ((i:Int)+(es.length:Int)) true)) at zy
       rw [HAN.out] at zy;have mX:=fun e W (k:fF W4 ans e W)=>aH.mk' (bY.then F3.out I3.out (⟨F5,a5,i5,f5⟩:bY w6 _ p {r2 with commit:=C} (n+600000) W4)) k;rw [←X1.out] at mX;obtain ⟨e0,e1,e2,e3,e4,e5,e6,e7,e8⟩:=aL (m:=⟨kd,mf,mto,mt,i,pv,mc,ok,es⟩) hb4;simp only at e0 e1 e2 e3 e4 e5 e6 e7 e8;clear a5 i5 f5 hb4;obtain ⟨amz,yE⟩:=aO zy mX;clear zy mX
       go_wp2_with fail
       refine amz.out.mono ?_;rintro e w9 m6;have T:=O (yE.out _ _ m6);obtain ⟨A6,c6,rfl,-,-⟩:=m6
       go_wp2_with fail
       go_ret
       exact T.out
end
end Go.Proofs.YtjnfmfmglehmbaaGreat
