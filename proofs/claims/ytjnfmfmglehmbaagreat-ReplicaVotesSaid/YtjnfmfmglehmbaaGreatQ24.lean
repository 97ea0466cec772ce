/-
  The program's replica: an append message that fits is taken.
-/
import Derived.Test.YtjnfmfmglehmbaaGreatQ23
namespace Go.Proofs.YtjnfmfmglehmbaaGreat
open Go.ChangeShapes Go.WideShapes Go.ChangeAt Go.RowKit
set_option linter.unusedVariables false
set_option maxRecDepth 100000
set_option maxHeartbeats 4000000
theorem adq (l:List Lg)(k:Nat):(dD l).drop (k*10)=dD (l.drop k):=by
 have h1:dD l=dD (l.take k)++dD (l.drop k):=by
  unfold dD;rw [←List.flatMap_append,List.take_append_drop]
 by_cases hk:k≤l.length
 ·have h2:(dD (l.take k)).length=k*10:=by rw [bg,List.length_take];congr 1;omega
  rw [h1,←h2,List.drop_left]
 ·rw [List.drop_eq_nil_of_le (show l.length≤k by omega),List.drop_eq_nil_of_le (by rw [bg];omega)]
  rfl
theorem Ent.drop {w:World}{G:Nat→Prop}{b off n c k:Nat}{es:List Lg}(h:Ent w G (.slice (some ⟨b,off,none⟩) n c) es)(hk:k<es.length):Ent w G (.slice (some ⟨b,off+k*10,none⟩) (es.drop k).length (c-k)) (es.drop k):=by
 obtain ⟨A',c',h1,h2,h3,h4,h5⟩:=h;injection h1 with e1 e2 e3;subst e1 e2 e3
 rcases h5 with rfl|⟨b',off',e1,e2,e3,e4⟩
 ·simp at hk
 injection e1 with e1;injection e1 with e5 e6;subst e5 e6;refine ⟨_,_,rfl,(fun hh=>by cases hh),by rw [List.length_drop];omega,by omega,.inr ⟨b,off+k*10,rfl,e2,e3,fun q hq=> ?_⟩⟩;have hl:=bg es;have hd:=adq es k;have hq2:k*10+q<(dD es).length:=by rw [←hd,List.length_drop] at hq;omega
 have:=e4 (k*10+q) hq2;rw [show off+k*10+q=off+(k*10+q) from by omega,this];simp only [←hd,List.getElem_drop]
theorem afj {b off n c k:Nat}(hk:k<n)(hc:n≤c):∀w:World,(Instr.slice 34 (.slice (some ⟨b,off,none⟩) n c) (some (.int .i64 (k:Int))) none none).run Tryz.prog w= .ok (.slice (some ⟨b,off+k*10,none⟩) (n-k) (c-k)) w:=by
 intro w;have he:Tryz.prog.elem 34=TLg:=by kernel_rfl
 have ht:Tryz.prog.underlying 34=some (.slice TLg):=by kernel_rfl
 obtain ⟨i0,hi0,hz0,hz1,hz2⟩:=info_parts fV;rw [run_slice_l w 34 (some ⟨b,off,none⟩) n c (by rw [he];exact ht) .i64 (k:Int) oy oy,he]
 simp [sizeOf,typeInfo,hi0,hz1,sliced]
 rw [if_neg oy];unfold Addr.add
 split<;>simp_all
section
variable {w w' :World}{F G:Nat→Prop}{p:Nat}{r:Rs}{s:Js}{n:Nat}
set_option maxHeartbeats 16000000 in
theorem vQ (h:RAt w F p r n)(m:Ms)(A:Option Addr)(c:Nat)(hm:bH r m)(hk:m.kind=3)(ht:m.term≤r.js.term)(hE:Ent w G (.slice A m.es.length c) m.es)(hGF:∀i,G i→¬F i)(hes:∀x∈m.es,x.e.ok)(hN1:¬m.term<r.js.term)(hN2:¬r.role=3)(hN3:r.fits m=true)(hsz:n+600000≤140737488355328):Calls Tryz.prog 103 #[.pointer (some ⟨p,0,none⟩),m.v (.slice A m.es.length c)] w (aQ w F p (r.aK m) (n+600000)):=by
 have hok:=h.ok;have hok2:=hok.aK hm hk ht hes;have agd:=hm.i0;have agc:=hm.i1;have am8:=(fB (hm.a hk)).2.1;have hcm0:=hm.c0;have hcm1:=hm.c1;have qL:=hok.com;have lK:=hok.log.few;have hM:=hE.rd.2.2.2.1;have hM2:=hE.rd.2.2.1;unfold maxLen at hM;have hT:=fun W (hf:Fr No w W)=>iq (h.ak hf).rj;have htl:=jv hok hm hk oy hN3;have hml:=iL r.js.log m.es m.index.toNat;have hix:m.index≤r.js.log.length∧(m.index=0∨(0<m.index∧aD r.js.log (m.index-1)=m.prev)):=by
  unfold Rs.fits at hN3;simp only [decide_eq_true_eq] at hN3;refine ⟨hN3.1,?_⟩
  rcases hN3.2 with a|a
  ·exact .inl a
  ·by_cases b:m.index=0
   ·exact .inl b
   ·exact .inr ⟨by omega,a⟩
 obtain ⟨W0,hW0⟩:∃W0,W0=w.alloc (.cells (m.cells (.slice A m.es.length c)).toArray TMs):=⟨_,rfl⟩;have hf0:Fr No w W0:=by rw [hW0];exact aj _ _
 obtain ⟨g,hg⟩:∃g,g=w.heap.size:=⟨_,rfl⟩;have hb:Blk W0 g TMs (m.cells (.slice A m.es.length c)).toArray:=by rw [hW0,hg];exact Blk.new _ _ _
 have hgF:¬F g:=fun hh=>by have:=h.lt g hh;omega
 have hgw:w.heap.size≤g:=by omega
 have hgp:g≠p:=fun hh=>hgF (hh▸h.lC);have hP:∀W,Fr No w W→W.cell? ⟨p,3,none⟩=some (.int .i64 r.role)∧W.frozen? ⟨p,3,none⟩=false:=fun W hW=>(let ⟨_,_,_,_,_,h1,_⟩:=h.ak hW;⟨h1.cell 3,h1.frozen 3⟩);have hC:=fun W (hf:Fr No W0 W)=>aL (m:=m) (hb.fr hf id);have hFK:∀k:Nat,bQ r.js.log m.es m.index.toNat k→k≤m.es.length:=fun k hh=>hh.1;obtain ⟨OV,hOV⟩:∃OV,OV=r.aK m:=⟨_,rfl⟩;obtain ⟨C,hC0⟩:∃C,C=max r.commit (min m.commit.toNat (m.index.toNat+m.es.length)):=⟨_,rfl⟩;obtain ⟨ans,nT⟩:∃ans,ans=r.answer m.from_ (m.index+m.es.length) true:=⟨_,rfl⟩;have hov:=hOV;unfold Rs.aK at hov;rw [if_neg hN1,if_neg hN2,if_neg (by rw [hN3];simp),←hC0,←nT] at hov;rw [←hOV] at hok2 ⊢;have q1:∀k:Nat,aX r.js.log m.index.toNat m.es=k→k<m.es.length→m.index.toNat+k<r.commit→OV=({r with role:=1},[]):=by
  intro k e1 e2 e3;rw [hov,e1,if_pos e2,if_pos e3]
 have q2:∀k:Nat,aX r.js.log m.index.toNat m.es=k→k<m.es.length→¬m.index.toNat+k<r.commit→OV=({r with role:=1,js:=replaceS r.js (m.index.toNat+k) (m.es.drop k),commit:=C},ans)∧bU {r with role:=1,js:=replaceS r.js (m.index.toNat+k) (m.es.drop k)}∧m.index.toNat+k≤r.js.log.length∧C≤(replaceS r.js (m.index.toNat+k) (m.es.drop k)).log.length∧(replaceS r.js (m.index.toNat+k) (m.es.drop k)).term=r.js.term:=by
  intro k e1 e2 e3;have e4:OV=({r with role:=1,js:=replaceS r.js (m.index.toNat+k) (m.es.drop k),commit:=C},ans):=by rw [hov,e1,if_pos e2,if_neg e3]
  rw [e4] at hok2;have h1:=hok2.com;simp only at h1;have h2:=htl.2 oy;rw [e1] at h2;exact ⟨e4,⟨hok2.log,hok2.lo,hok2.hi,hok2.vlo,hok2.vhi,hok.idn,hok.five,.inl rfl,by simp only;omega,hok.vts,fun hh=>by simp at hh,fun hh=>by simp at hh⟩,by omega,h1,by rw [h2]⟩
 have q3:aX r.js.log m.index.toNat m.es=m.es.length→OV=({r with role:=1,commit:=C},ans)∧C≤r.js.log.length:=by
  intro e1;have e4:OV=({r with role:=1,commit:=C},ans):=by rw [hov,if_neg oy]
  rw [e4] at hok2;exact ⟨e4,hok2.com⟩
 have zA:∀r' :Rs,r'.id=r.id→r'.js.term=r.js.term→r'.answer m.from_ (m.index+m.es.length) true=ans:=by
  intro r' e1 e2;rw [nT];unfold Rs.answer;rw [e1,e2]
 have hM0:=bQ.zero r.js.log m.es m.index.toNat;clear hov hOV nT htl hml hok2 hm hk hN3;obtain ⟨kd,mf,mto,mt,ix,pv,cm,ok,es⟩:=m;simp only [Ms.cells] at hW0 hC;simp only at*;obtain ⟨i,rfl⟩:∃i:Nat,ix=i:=⟨ix.toNat,by omega⟩;obtain ⟨mc,rfl⟩:∃mc:Nat,cm=mc:=⟨cm.toNat,by omega⟩;rw [Int.toNat_natCast] at hC0 hM0 q3;simp only [Int.toNat_natCast] at hC0 hM0 q1 q2 q3 hFK;have hcv:(if (r.commit:Int)<(if (i:Int)+(es.length:Int)<(mc:Int) then (i:Int)+(es.length:Int) else (mc:Int)) then (if (i:Int)+(es.length:Int)<(mc:Int) then (i:Int)+(es.length:Int) else (mc:Int)) else (r.commit:Int))=(C:Int):=by rw [hC0];split<;>split<;>omega
 have hel:es.length≤4096:=by omega
 have hil:i≤4096:=by omega
 obtain ⟨c0,c1,c2,c3,c4,c5,c6,c7,c8⟩:=hC _ (Fr.refl _ _);obtain ⟨p3,pf3⟩:=hP _ hf0;have u1:decide (mt<r.js.term)=false:=by simpa using hN1
 have u2:(r.role == 3)=false:=by simpa using hN2
 have jl:=fun W (hf:Fr No W0 W)=>(h.ak (hf0.ah hf)).lQ;have ap8:g<W0.heap.size:=hb.lt;have hCp:∀W W2,Fr No W0 W→W2=W.setCell ⟨p,3,none⟩ (.int .i64 1)→Blk W2 g TMs ((⟨kd,mf,mto,mt,i,pv,mc,ok,es⟩:Ms).cells (.slice A es.length c)).toArray:=fun W W2 hf he=>by rw [he];exact (hb.fr hf id).aF hgp _
 have hEp:∀W W2,Fr No W0 W→W2=W.setCell ⟨p,3,none⟩ (.int .i64 1)→Ent W2 (fun i=>G i∧i<w.heap.size) (.slice A es.length c) es:=fun W W2 hf he=>by
  rw [he];exact (hE.lt.ak (hf0.ah hf)).fr (dx _ ⟨p,3,none⟩ _) fun k hk hh=>hGF k hk.1 (hh▸h.lC)
 obtain ⟨tt,htt⟩:∃tt,tt=r.js.term:=⟨_,rfl⟩;rw [←htt] at u1 hT;clear h hok hb hP hE;obtain ⟨HT,HW0,HF0,HG,HC,jM,HCP,HEP,HTT,Q1,Q2,Q3⟩:=gY hT hW0 hf0 hg hC jl hCp hEp htt q1 q2 q3;obtain ⟨ae0,HM0,HC0,HCV,HES,HGF,HFK⟩:=nC zA hM0 hC0 hcv hes hGF hFK;clear hT hW0 hf0 hg hC jl hCp hEp htt q1 q2 q3 zA hM0 hC0 hcv hes hGF hFK
 go_in
 go_wp2_with fail
 rw [←HG.out,←HW0.out]
 go_quiet ((go_at_call 12;exact aI (HT.out _ (HF0.out.drewN _))))
 go_wp2_with fail
 obtain ⟨W2,hW2⟩:∃W2,W2=(W0.drewN nq).setCell ⟨p,3,none⟩ (.int .i64 1):=⟨_,rfl⟩;rw [←hW2];have hr2:=jM.out _ ((Fr.refl No W0).drewN nq);rw [←hW2] at hr2;have hb2:=HCP.out _ W2 ((Fr.refl No W0).drewN nq) hW2;have hE2:=HEP.out _ W2 ((Fr.refl No W0).drewN nq) hW2;clear hW2 c0 c1 c2 c3 c4 c5 c6 c7 c8 p3 pf3 jM HCP HEP;have hC3:=fun V (hf:Fr No W2 V)=>aL (hb2.fr hf id);simp only at hC3;obtain ⟨c0,c1,c2,c3,c4,c5,c6,c7,c8⟩:=hC3 _ (Fr.refl _ _);obtain ⟨G2,a2,i2,f2⟩:=hr2;have HWX:Fr No w (W0.drewN nq):=HF0.out.drewN nq;have hg2:¬G2 g:=fun hh=>by
  rcases i2 g hh with hh2|hh2
  ·exact hgF hh2
  ·have:W0.heap.size≤g:=hh2
   omega
 have sZ:∀i,(G i∧i<w.heap.size)→¬G2 i:=fun i hi hh=>by
  rcases i2 i hh with hh2|hh2
  ·exact HGF.out i hi.1 hh2
  ·have h1:W0.heap.size≤i:=hh2
   have h2:=HF0.out.size
   omega
 have hL:=fun V (hf:Fr No W2 V)=>qo (a2.ak hf).rj;simp only at hL;have hfin:=fun r' N V (hr:RTo W2 G2 p r' N V)=>(RTo.after HWX (RTo.then f2 i2 hr):RTo w F p r' N V);have hstill:=fun V (hf:Fr No W2 V)=>((a2.more (m:=n+600000) oy).still hf);have aaq:=fun V r' N V' (hf:Fr No W2 V) (hr:RTo V G2 p r' N V')=>RAt.far (a2.ak hf) (hb2.fr hf id) hg2 hr;have hbW:=fun V (hf:Fr No W2 V)=>hb2.fr hf id;have hrep:=fun V (hf:Fr No W2 V) b off k (hA:A=some ⟨b,off,none⟩) (hk:k<es.length) (e1:aX r.js.log i es=k) (e3:¬i+k<r.commit)=>(ac1 (a2.ak hf) (i+k) (Q2.out k e1 hk e3).2.2.1 (some ⟨b,off+k*10,none⟩) (c-k) (es.drop k) (by rw [hA] at hE2;exact (hE2.drop hk).ak hf) sZ (fun x hx=>HES.out x (List.mem_of_mem_drop hx)) (by rw [List.length_drop];omega) (Q2.out k e1 hk e3).2.1 hsz:Calls Tryz.prog 145 #[.pointer (some ⟨p,0,none⟩),.int .i64 ((i+k:Nat):Int),.slice (some ⟨b,off+k*10,none⟩) (es.drop k).length (c-k)] V fun e w' =>e= .returned (.tuple #[])∧RTo V G2 p {r with role:=1,js:=replaceS r.js (i+k) (es.drop k)} (n+600000) w');have hat:=fun k hk=>hE2.at_ (i:=k) hk;obtain ⟨j,Fj,bits,nx,mtc,h1,h2,h3,-⟩:=a2;have hP0:∀V,Fr No W2 V→V.cell? ⟨p,0,none⟩=some (.pointer (some ⟨j,0,none⟩))∧V.cell? ⟨p,4,none⟩=some (.int .i64 (r.commit:Int))∧V.frozen? ⟨p,4,none⟩=false:=fun V hf=>⟨(h1.fr hf id).cell 0,(h1.fr hf id).cell 4,(h1.fr hf id).frozen 4⟩;have hTA:=fun V (hf:Fr No W2 V) x=>mY (h3.ak hf) x;simp only at hTA;have ahk:=fun b off k (hk:k<es.length)=>afj (b:=b) (off:=off) hk hM2
 have hM0:=HM0.out;clear HM0 h1 h2 h3 hb2 hE2 i2 f2 sZ HWX hg2;obtain ⟨LL,hLL⟩:∃LL,LL=r.js.log.length:=⟨_,rfl⟩;rw [←hLL] at hL lK qL hix;have hMS:∀k x,bQ r.js.log es i k→es[k]? =some x→¬aD r.js.log ((i:Int)+(k:Int))=x.term→aX r.js.log i es=k:=fun k x q1 q2 q3=>q1.stop q2 q3;have hMN:∀k x,bQ r.js.log es i k→es[k]? =some x→aD r.js.log ((i:Int)+(k:Int))=x.term→bQ r.js.log es i (k+1):=fun k x q1 q2 q3=>q1.next q2 q3;have hMD:bQ r.js.log es i es.length→aX r.js.log i es=es.length:=fun q=>q.done rfl;obtain ⟨TA,aqm⟩:∃TA:Int→Int,TA=aD r.js.log:=⟨_,rfl⟩;rw [←aqm] at hTA hMS hMN hix;obtain ⟨MK,hMK⟩:∃MK:Nat,MK=aX r.js.log i es:=⟨_,rfl⟩;obtain ⟨MA,hMA⟩:∃MA:Nat→Prop,MA=bQ r.js.log es i:=⟨_,rfl⟩;have hFK:∀k,MA k→k≤es.length:=by rw [hMA];exact HFK.out
 have q1:=Q1.out;have q2:=Q2.out;have q3:=Q3.out;rw [←hMK] at hMS hMD hrep q1 q2 q3;rw [←hMA] at hMS hMN hMD hM0;clear hMK hMA aqm Q1 Q2 Q3 HFK hLL;obtain ⟨HC3,HL,HTA,HP0,HAT,bS,bZ,ag2,qY,ahu,HMS,HMN⟩:=gY hC3 hL hTA hP0 hat hfin hstill aaq hrep ahk hMS hMN;obtain ⟨HMD,HM0,Q1,Q2,Q3,HFK,HBW⟩:=nC hMD hM0 q1 q2 q3 hFK hbW;clear hC3 hL hTA hP0 hat hfin hstill aaq hrep ahk hMS hMN hMD hM0 q1 q2 q3 hFK hbW
 rcases hix with ⟨atj,a|⟨a,hpv⟩⟩
 ·have t1:decide (LL<i)=false:=by simp;omega
  have t1' :decide ((LL:Int)<(i:Int))=false:=by simp;omega
  have t2:decide (0<i)=false:=by simp;omega
  have t2' :decide ((0:Int)<(i:Int))=false:=by simp;omega
  clear a
  go_wp2_with fail
  refine wp_region_held_drew (S:=fun V=>Fr No W2 V∧V.cell? ⟨g,4,none⟩=some (.int .i64 (i:Int))∧V.cell? ⟨g,5,none⟩=some (.int .i64 pv)∧V.cell? ⟨p,0,none⟩=some (.pointer (some ⟨j,0,none⟩))) (by kernel_rfl) (⟨(Fr.refl No W2).drew,(HC3.out _ ((Fr.refl No W2).drew)).2.2.2.2.1,(HC3.out _ ((Fr.refl No W2).drew)).2.2.2.2.2.1,(HP0.out _ ((Fr.refl No W2).drew)).1⟩) (fun hHeld=> ?_);refine I 0 rfl ?_;simp only [Act.put,J];refine I 1 rfl ?_;simp only [Act.put,J];refine I 2 rfl ?_;simp only [Act.put,J];refine wpAnyH_ready (rs:=[3]) (by kernel_rfl) (by simp) (AllReadyH.cons rfl (fun K hK=> ?_) AllReadyH.nil)
  go_simp
  refine (HL.out _ hHeld.1).mono ?_;rintro e w5 ⟨rfl,rfl⟩;have QV:=O (hHeld.1)
  go_wp2_with fail
  clear hHeld;refine hK.out _ _ (⟨QV.out,(HC3.out _ (QV.out)).2.2.2.2.1,(HC3.out _ (QV.out)).2.2.2.2.2.1,(HP0.out _ (QV.out)).1⟩) (fun hHeld=> ?_);clear hK K QV
  try simp only [Act.put,J]
  refine I 4 rfl ?_;simp only [Act.put,J];refine I 5 rfl ?_;simp only [Act.put,J];refine I 6 rfl ?_;simp only [Act.put,J];refine I 7 rfl ?_;simp only [Act.put,J];refine I 8 rfl ?_;simp only [Act.put,J];refine I 9 rfl ?_;simp only [Act.put,J];refine bI 10 rfl rfl ?_;simp only [Act.put,J];refine bI 12 rfl rfl ?_;simp only [Act.put,J];refine bI 14 rfl rfl ?_;simp only [Act.put,J];refine bI 16 rfl rfl ?_;simp only [Act.put,J];refine bI 18 rfl rfl ?_;simp only [Act.put,J];refine tkN 20 rfl ?_;simp only [Act.put,J];refine I 21 rfl ?_;simp only [Act.put,J];refine I 22 rfl ?_;simp only [Act.put,J];refine wpAnyH_done (by kernel_rfl) ?_ _;have K2:=O hHeld.1;clear hHeld;clear c0 c1 c2 c3 c4 c5 c6 c7 c8;clear t1 t1' t2 t2'
  go_wp2_with fail
  go_loopw [5] (fun kv wr=>∃k:Nat,kv= .int .i64 k∧MA k∧Fr No W2 wr) (fun kv _=>es.length-(intOf kv).toNat)
  case atStart=>exact ⟨0,rfl,HM0.out,K2.out⟩
  case round=>
   obtain ⟨k,rfl,hma,hf⟩:=hrel;have hkl:=HFK.out k hma;clear K2;obtain ⟨HMA,HF⟩:=aO hma hf;clear hma hf
   by_cases hlt:k<es.length
   ·obtain ⟨b,off,x,rfl,hx,hcs⟩:=HAT.out k hlt
    have hee:∀V,Fr No W2 V→V.cell? ⟨b,off+k*10,none⟩=some (.int .i64 x.term):=fun V hV=>(hcs V hV).1;obtain ⟨xt,xe⟩:=x;simp only at hee;have hwr:IntKind.i64.wrap ((i:Int)+(k:Int))=(i:Int)+(k:Int):=IntWalk.i64_in _ oy;have hlt2:(k:Int)<(es.length:Int):=by omega
    have hd:decide (k<es.length)=true:=by simpa using hlt
    have hd2:decide ((k:Int)<(es.length:Int))=true:=by simpa using hlt
    clear hcs;obtain ⟨HEE,HX⟩:=aO hee hx;clear hee hx
    by_cases he:TA ((i:Int)+(k:Int))=xt
    ·have heq:(TA ((i:Int)+(k:Int)) == xt)=true:=by simpa using he
     have HE:=O he;clear he
     go_wp2_with fail
     refine wp_region_held_drew (S:=fun V=>Fr No W2 V∧V.cell? ⟨g,4,none⟩=some (.int .i64 (i:Int))∧V.cell? ⟨g,8,none⟩=some (.slice (some ⟨b,off,none⟩) es.length c)∧V.cell? ⟨p,0,none⟩=some (.pointer (some ⟨j,0,none⟩))∧V.cell? ⟨b,off+k*10,none⟩=some (.int .i64 xt)) (by kernel_rfl) (⟨HF.out.drew,(HC3.out _ (HF.out.drew)).2.2.2.2.1,(HC3.out _ (HF.out.drew)).2.2.2.2.2.2.2.2,(HP0.out _ (HF.out.drew)).1,HEE.out _ (HF.out.drew)⟩) (fun hHeld=> ?_);refine I 0 rfl ?_;simp only [Act.put,J];refine I 1 rfl ?_;simp only [Act.put,J];refine I 2 rfl ?_;simp only [Act.put,J];refine I 3 rfl ?_;simp only [Act.put,J];refine I 4 rfl ?_;simp only [Act.put,J];refine I 5 rfl ?_;simp only [Act.put,J];refine I 6 rfl ?_;simp only [Act.put,J];refine I 7 rfl ?_;simp only [Act.put,J];refine I 8 rfl ?_;simp only [Act.put,J];refine I 9 rfl ?_;simp only [Act.put,J];refine I 10 rfl ?_;simp only [Act.put,J];refine I 11 rfl ?_;simp only [Act.put,J];refine I 12 rfl ?_;simp only [Act.put,J];refine I 13 rfl ?_;simp only [Act.put,J];refine I 15 rfl ?_;simp only [Act.put,J];refine I 16 rfl ?_;simp only [Act.put,J];refine I 17 rfl ?_;simp only [Act.put,J];refine I 18 rfl ?_;simp only [Act.put,J];refine I 19 rfl ?_;simp only [Act.put,J];refine I 20 rfl ?_;simp only [Act.put,J];refine wpAnyH_ready (rs:=[14]) (by kernel_rfl) (by simp) (AllReadyH.cons rfl (fun K hK=> ?_) AllReadyH.nil)
     go_simp
     try rw [hwr]
     refine (HTA.out _ hHeld.1 _).mono ?_;rintro e w5 ⟨rfl,q6⟩;have QV:=O (hHeld.1.ah q6)
     go_wp2_with fail
     clear hHeld;refine hK.out _ _ (⟨QV.out,(HC3.out _ (QV.out)).2.2.2.2.1,(HC3.out _ (QV.out)).2.2.2.2.2.2.2.2,(HP0.out _ (QV.out)).1,HEE.out _ (QV.out)⟩) (fun hHeld=> ?_);clear hK K QV
     try simp only [Act.put,J]
     refine I 21 rfl ?_;simp only [Act.put,J];refine I 22 rfl ?_;simp only [Act.put,J];refine wpAnyH_done (by kernel_rfl) ?_ _;have K2:=O hHeld.1;clear hHeld
     go_wp2_with fail
     go_roundw
     case rel=>exact ⟨k+1,by go_num,HMN.out k ⟨xt,xe⟩ HMA.out HX.out HE.out,K2.out⟩
     case measure=>simp [intOf];omega
    ·have heq:(TA ((i:Int)+(k:Int)) == xt)=false:=by simpa using he
     have hst:=HMS.out k ⟨xt,xe⟩ HMA.out HX.out he;clear he
     by_cases hcp:i+k<r.commit
     ·have hc1:decide (i+k<r.commit)=true:=by simpa using hcp
      have hc2:decide ((i:Int)+(k:Int)<(r.commit:Int))=true:=by simp;omega
      have hov:=Q1.out k hst hlt hcp;obtain ⟨HST,HOV⟩:=aO hst hov;clear hst hov
      go_wp2_with fail
      refine wp_region_held_drew (S:=fun V=>Fr No W2 V∧V.cell? ⟨g,4,none⟩=some (.int .i64 (i:Int))∧V.cell? ⟨g,8,none⟩=some (.slice (some ⟨b,off,none⟩) es.length c)∧V.cell? ⟨p,0,none⟩=some (.pointer (some ⟨j,0,none⟩))∧V.cell? ⟨b,off+k*10,none⟩=some (.int .i64 xt)) (by kernel_rfl) (⟨HF.out.drew,(HC3.out _ (HF.out.drew)).2.2.2.2.1,(HC3.out _ (HF.out.drew)).2.2.2.2.2.2.2.2,(HP0.out _ (HF.out.drew)).1,HEE.out _ (HF.out.drew)⟩) (fun hHeld=> ?_);refine I 0 rfl ?_;simp only [Act.put,J];refine I 1 rfl ?_;simp only [Act.put,J];refine I 2 rfl ?_;simp only [Act.put,J];refine I 3 rfl ?_;simp only [Act.put,J];refine I 4 rfl ?_;simp only [Act.put,J];refine I 5 rfl ?_;simp only [Act.put,J];refine I 6 rfl ?_;simp only [Act.put,J];refine I 7 rfl ?_;simp only [Act.put,J];refine I 8 rfl ?_;simp only [Act.put,J];refine I 9 rfl ?_;simp only [Act.put,J];refine I 10 rfl ?_;simp only [Act.put,J];refine I 11 rfl ?_;simp only [Act.put,J];refine I 12 rfl ?_;simp only [Act.put,J];refine I 13 rfl ?_;simp only [Act.put,J];refine I 15 rfl ?_;simp only [Act.put,J];refine I 16 rfl ?_;simp only [Act.put,J];refine I 17 rfl ?_;simp only [Act.put,J];refine I 18 rfl ?_;simp only [Act.put,J];refine I 19 rfl ?_;simp only [Act.put,J];refine I 20 rfl ?_;simp only [Act.put,J];refine wpAnyH_ready (rs:=[14]) (by kernel_rfl) (by simp) (AllReadyH.cons rfl (fun K hK=> ?_) AllReadyH.nil)
      go_simp
      try rw [hwr]
      refine (HTA.out _ hHeld.1 _).mono ?_;rintro e w5 ⟨rfl,q6⟩;have QV:=O (hHeld.1.ah q6)
      go_wp2_with fail
      clear hHeld;refine hK.out _ _ (⟨QV.out,(HC3.out _ (QV.out)).2.2.2.2.1,(HC3.out _ (QV.out)).2.2.2.2.2.2.2.2,(HP0.out _ (QV.out)).1,HEE.out _ (QV.out)⟩) (fun hHeld=> ?_);clear hK K QV
      try simp only [Act.put,J]
      refine I 21 rfl ?_;simp only [Act.put,J];refine I 22 rfl ?_;simp only [Act.put,J];refine wpAnyH_done (by kernel_rfl) ?_ _;have K2:=O hHeld.1;clear hHeld;obtain ⟨c0,c1,c2,c3,c4,c5,c6,c7,c8⟩:=HC3.out _ K2.out;obtain ⟨p0,p4,pf4⟩:=HP0.out _ K2.out;clear hwr
      go_wp2_with fail
      go_ret
      rw [HOV.out];exact aQ.mk' (bS.out _ _ _ (bZ.out _ K2.out)) (fF.none_ _)
     ·have hc1:decide (i+k<r.commit)=false:=by simpa using hcp
      have hc2:decide ((i:Int)+(k:Int)<(r.commit:Int))=false:=by simp;omega
      obtain ⟨hov,-,-,hC,htm⟩:=Q2.out k hst hlt hcp;have hrp:=fun V hf=>qY.out V hf b off k rfl hlt hst hcp;simp only [Int.natCast_add,List.length_drop] at hrp;have hsl:=ahu.out b off k hlt;obtain ⟨HST,HOV,HTM,HRP,HC⟩:=jr hst hov htm hrp hC;clear hst hov htm hrp hC
      go_wp2_with fail
      refine wp_region_held_drew (S:=fun V=>Fr No W2 V∧V.cell? ⟨g,4,none⟩=some (.int .i64 (i:Int))∧V.cell? ⟨g,8,none⟩=some (.slice (some ⟨b,off,none⟩) es.length c)∧V.cell? ⟨p,0,none⟩=some (.pointer (some ⟨j,0,none⟩))∧V.cell? ⟨b,off+k*10,none⟩=some (.int .i64 xt)) (by kernel_rfl) (⟨HF.out.drew,(HC3.out _ (HF.out.drew)).2.2.2.2.1,(HC3.out _ (HF.out.drew)).2.2.2.2.2.2.2.2,(HP0.out _ (HF.out.drew)).1,HEE.out _ (HF.out.drew)⟩) (fun hHeld=> ?_);refine I 0 rfl ?_;simp only [Act.put,J];refine I 1 rfl ?_;simp only [Act.put,J];refine I 2 rfl ?_;simp only [Act.put,J];refine I 3 rfl ?_;simp only [Act.put,J];refine I 4 rfl ?_;simp only [Act.put,J];refine I 5 rfl ?_;simp only [Act.put,J];refine I 6 rfl ?_;simp only [Act.put,J];refine I 7 rfl ?_;simp only [Act.put,J];refine I 8 rfl ?_;simp only [Act.put,J];refine I 9 rfl ?_;simp only [Act.put,J];refine I 10 rfl ?_;simp only [Act.put,J];refine I 11 rfl ?_;simp only [Act.put,J];refine I 12 rfl ?_;simp only [Act.put,J];refine I 13 rfl ?_;simp only [Act.put,J];refine I 15 rfl ?_;simp only [Act.put,J];refine I 16 rfl ?_;simp only [Act.put,J];refine I 17 rfl ?_;simp only [Act.put,J];refine I 18 rfl ?_;simp only [Act.put,J];refine I 19 rfl ?_;simp only [Act.put,J];refine I 20 rfl ?_;simp only [Act.put,J];refine wpAnyH_ready (rs:=[14]) (by kernel_rfl) (by simp) (AllReadyH.cons rfl (fun K hK=> ?_) AllReadyH.nil)
      go_simp
      try rw [hwr]
      refine (HTA.out _ hHeld.1 _).mono ?_;rintro e w5 ⟨rfl,q6⟩;have QV:=O (hHeld.1.ah q6)
      go_wp2_with fail
      clear hHeld;refine hK.out _ _ (⟨QV.out,(HC3.out _ (QV.out)).2.2.2.2.1,(HC3.out _ (QV.out)).2.2.2.2.2.2.2.2,(HP0.out _ (QV.out)).1,HEE.out _ (QV.out)⟩) (fun hHeld=> ?_);clear hK K QV
      try simp only [Act.put,J]
      refine I 21 rfl ?_;simp only [Act.put,J];refine I 22 rfl ?_;simp only [Act.put,J];refine wpAnyH_done (by kernel_rfl) ?_ _;have K2:=O hHeld.1;clear hHeld;obtain ⟨c0,c1,c2,c3,c4,c5,c6,c7,c8⟩:=HC3.out _ K2.out;obtain ⟨p0,p4,pf4⟩:=HP0.out _ K2.out;clear hwr
      go_wp2_with fail
      refine (HRP.out _ K2.out).mono ?_;rintro e w7 ⟨rfl,t7⟩;obtain ⟨HB3,TT⟩:=aO (ag2.out _ _ _ _ K2.out t7) (RTo.after K2.out t7);clear t7 c0 c1 c2 c3 c4 c5 c6 c7 c8 p0 p4 pf4;have hC:=HC.out;obtain ⟨G3,a3,i3,f3⟩:=TT.out;have hb3:=HB3.out;obtain ⟨c0,c1,c2,c3,c4,c5,c6,c7,c8⟩:=aL hb3;simp only at c0 c1 c2 c3 c4 c5 c6 c7 c8;obtain ⟨p4,pf4⟩:w7.cell? ⟨p,4,none⟩=some (.int .i64 (r.commit:Int))∧w7.frozen? ⟨p,4,none⟩=false:=(let ⟨_,_,_,_,_,h1,_⟩:=a3;⟨h1.cell 4,h1.frozen 4⟩);have hset:=(a3.commits rfl C hC).quiet ((Fr.refl No _).drew);have hb4:Blk ((w7.setCell ⟨p,4,none⟩ (.int .i64 (C:Int))).drew) g TMs _:=hb3.aF hgp (.int .i64 (C:Int));have hrf:=fun V r' N (h:RTo w7 G3 p r' N V)=>bS.out r' N V (RTo.then f3 i3 h);clear a3 i3 f3 hb3 HB3 TT;obtain ⟨jQ,HB4,HRF⟩:=bP hset hb4 hrf;clear hset hb4 hrf
      go_wp2_with fail
      go_region
      all_goals
       rw [HCV.out];generalize (if (i:Int)+(es.length:Int)<(mc:Int) then (i:Int)+(es.length:Int) else (mc:Int))=mn;have hr9:=HRF.out _ _ _ jQ.out;obtain ⟨c0,c1,c2,c3,c4,c5,c6,c7,c8⟩:=aL HB4.out;simp only at c0 c1 c2 c3 c4 c5 c6 c7 c8;obtain ⟨G5,a5,i5,f5⟩:=jQ.out;have hst:=kL a5 mf ((i:Int)+(es.length:Int)) true;rw [ae0.out {r with role:=1,js:=replaceS r.js (i+k) (es.drop k),commit:=C} rfl HTM.out] at hst;clear a5 i5 f5 jQ HB4 HRF;generalize (w7.setCell ⟨p,4,none⟩ (.int .i64 (C:Int))).drew=w8 at*;obtain ⟨HST,HR9⟩:=aO hst hr9;clear hst hr9
       go_wp2_with fail
       refine HST.out.mono ?_;rintro e w9 m9;have M:=O m9;obtain ⟨A5,c5',rfl,-,-⟩:=m9
       go_wp2_with fail
       go_ret
       rw [HOV.out];exact aQ.mk' HR9.out M.out
   ·obtain rfl:k=es.length:=by omega
    have hd:decide (es.length<es.length)=false:=by simp
    have hd2:decide ((es.length:Int)<(es.length:Int))=false:=by simp
    obtain ⟨hov,hC⟩:=Q3.out (HMD.out HMA.out);have HOV:=O hov;clear hov
    go_wp2_with fail
    refine wp_region_held_drew (S:=fun V=>Fr No W2 V∧V.cell? ⟨g,8,none⟩=some (.slice A es.length c)) (by kernel_rfl) (⟨HF.out.drew,(HC3.out _ (HF.out.drew)).2.2.2.2.2.2.2.2⟩) (fun hHeld=> ?_);refine I 0 rfl ?_;simp only [Act.put,J];refine I 1 rfl ?_;simp only [Act.put,J];refine I 2 rfl ?_;simp only [Act.put,J];refine I 3 rfl ?_;simp only [Act.put,J];refine I 4 rfl ?_;simp only [Act.put,J];refine I 5 rfl ?_;simp only [Act.put,J];refine bI 6 rfl rfl ?_;simp only [Act.put,J];refine bI 8 rfl rfl ?_;simp only [Act.put,J];refine bI 10 rfl rfl ?_;simp only [Act.put,J];refine bI 12 rfl rfl ?_;simp only [Act.put,J];refine bI 14 rfl rfl ?_;simp only [Act.put,J];refine bI 16 rfl rfl ?_;simp only [Act.put,J];refine bI 18 rfl rfl ?_;simp only [Act.put,J];refine bI 20 rfl rfl ?_;simp only [Act.put,J];refine I 22 rfl ?_;simp only [Act.put,J];refine wpAnyH_done (by kernel_rfl) ?_ _;have K2:=O hHeld.1;clear hHeld;obtain ⟨c0,c1,c2,c3,c4,c5,c6,c7,c8⟩:=HC3.out _ K2.out;obtain ⟨p0,p4,pf4⟩:=HP0.out _ K2.out;clear c0 c1 c2 c3 c4 c5 c6 c7 c8 p0 p4 pf4;generalize wr.drew=w7 at*;obtain ⟨HB3,TT⟩:=aO (HBW.out _ K2.out) (bZ.out _ K2.out);obtain ⟨G3,a3,i3,f3⟩:=TT.out;have hb3:=HB3.out;obtain ⟨c0,c1,c2,c3,c4,c5,c6,c7,c8⟩:=aL hb3;simp only at c0 c1 c2 c3 c4 c5 c6 c7 c8;obtain ⟨p4,pf4⟩:w7.cell? ⟨p,4,none⟩=some (.int .i64 (r.commit:Int))∧w7.frozen? ⟨p,4,none⟩=false:=(let ⟨_,_,_,_,_,h1,_⟩:=a3;⟨h1.cell 4,h1.frozen 4⟩);have hset:=(a3.commits rfl C hC).quiet ((Fr.refl No _).drew)
    have hb4:Blk ((w7.setCell ⟨p,4,none⟩ (.int .i64 (C:Int))).drew) g TMs _:=hb3.aF hgp (.int .i64 (C:Int));have hrf:=fun V r' N (h:RTo w7 G3 p r' N V)=>bS.out r' N V (RTo.then f3 i3 h);clear a3 i3 f3 hb3 HB3 TT;obtain ⟨jQ,HB4,HRF⟩:=bP hset hb4 hrf;clear hset hb4 hrf
    go_wp2_with fail
    go_region
    all_goals
     rw [HCV.out];generalize (if (i:Int)+(es.length:Int)<(mc:Int) then (i:Int)+(es.length:Int) else (mc:Int))=mn;have hr9:=HRF.out _ _ _ jQ.out;obtain ⟨c0,c1,c2,c3,c4,c5,c6,c7,c8⟩:=aL HB4.out;simp only at c0 c1 c2 c3 c4 c5 c6 c7 c8;obtain ⟨G5,a5,i5,f5⟩:=jQ.out;have hst:=kL a5 mf ((i:Int)+(es.length:Int)) true;rw [ae0.out {r with role:=1,commit:=C} rfl rfl] at hst;clear a5 i5 f5 jQ HB4 HRF;generalize (w7.setCell ⟨p,4,none⟩ (.int .i64 (C:Int))).drew=w8 at*;obtain ⟨HST,HR9⟩:=aO hst hr9;clear hst hr9
     go_wp2_with fail
     refine HST.out.mono ?_;rintro e w9 m9;have M:=O m9;obtain ⟨A5,c5',rfl,-,-⟩:=m9
     go_wp2_with fail
     go_ret
     rw [HOV.out];exact aQ.mk' HR9.out M.out
 ·have t1:decide (LL<i)=false:=by simp;omega
  have t1' :decide ((LL:Int)<(i:Int))=false:=by simp;omega
  have t2:decide (0<i)=true:=by simp;omega
  have t2' :decide ((0:Int)<(i:Int))=true:=by simp;omega
  have t3:(TA ((i:Int)-1) != pv)=false:=by simpa using hpv
  have hwr:IntKind.i64.wrap ((i:Int)-1)=(i:Int)-1:=IntWalk.i64_in _ oy;clear a;clear hpv
  go_wp2_with fail
  refine wp_region_held_drew (S:=fun V=>Fr No W2 V∧V.cell? ⟨g,4,none⟩=some (.int .i64 (i:Int))∧V.cell? ⟨g,5,none⟩=some (.int .i64 pv)∧V.cell? ⟨p,0,none⟩=some (.pointer (some ⟨j,0,none⟩))) (by kernel_rfl) (⟨(Fr.refl No W2).drew,(HC3.out _ ((Fr.refl No W2).drew)).2.2.2.2.1,(HC3.out _ ((Fr.refl No W2).drew)).2.2.2.2.2.1,(HP0.out _ ((Fr.refl No W2).drew)).1⟩) (fun hHeld=> ?_);refine I 0 rfl ?_;simp only [Act.put,J];refine I 1 rfl ?_;simp only [Act.put,J];refine I 2 rfl ?_;simp only [Act.put,J];refine wpAnyH_ready (rs:=[3]) (by kernel_rfl) (by simp) (AllReadyH.cons rfl (fun K hK=> ?_) AllReadyH.nil)
  go_simp
  refine (HL.out _ hHeld.1).mono ?_;rintro e w5 ⟨rfl,rfl⟩;have QV:=O (hHeld.1)
  go_wp2_with fail
  clear hHeld;refine hK.out _ _ (⟨QV.out,(HC3.out _ (QV.out)).2.2.2.2.1,(HC3.out _ (QV.out)).2.2.2.2.2.1,(HP0.out _ (QV.out)).1⟩) (fun hHeld=> ?_);clear hK K QV
  try simp only [Act.put,J]
  refine I 4 rfl ?_;simp only [Act.put,J];refine I 5 rfl ?_;simp only [Act.put,J];refine I 6 rfl ?_;simp only [Act.put,J];refine I 7 rfl ?_;simp only [Act.put,J];refine I 8 rfl ?_;simp only [Act.put,J];refine I 9 rfl ?_;simp only [Act.put,J];refine I 10 rfl ?_;simp only [Act.put,J];refine I 11 rfl ?_;simp only [Act.put,J];refine I 12 rfl ?_;simp only [Act.put,J];refine I 13 rfl ?_;simp only [Act.put,J];refine I 14 rfl ?_;simp only [Act.put,J];refine I 15 rfl ?_;simp only [Act.put,J];refine I 16 rfl ?_;simp only [Act.put,J];refine I 18 rfl ?_;simp only [Act.put,J];refine I 19 rfl ?_;simp only [Act.put,J];refine wpAnyH_ready (rs:=[17]) (by kernel_rfl) (by simp) (AllReadyH.cons rfl (fun K hK=> ?_) AllReadyH.nil)
  go_simp
  try rw [hwr]
  refine (HTA.out _ hHeld.1 _).mono ?_;rintro e w5 ⟨rfl,q6⟩;have QV:=O (hHeld.1.ah q6)
  go_wp2_with fail
  clear hHeld;refine hK.out _ _ (⟨QV.out,(HC3.out _ (QV.out)).2.2.2.2.1,(HC3.out _ (QV.out)).2.2.2.2.2.1,(HP0.out _ (QV.out)).1⟩) (fun hHeld=> ?_);clear hK K QV
  try simp only [Act.put,J]
  refine I 20 rfl ?_;simp only [Act.put,J];refine I 21 rfl ?_;simp only [Act.put,J];refine I 22 rfl ?_;simp only [Act.put,J];refine wpAnyH_done (by kernel_rfl) ?_ _;have K2:=O hHeld.1;clear hHeld;clear c0 c1 c2 c3 c4 c5 c6 c7 c8;clear hwr t3;clear t1 t1' t2 t2'
  go_wp2_with fail
  go_loopw [5] (fun kv wr=>∃k:Nat,kv= .int .i64 k∧MA k∧Fr No W2 wr) (fun kv _=>es.length-(intOf kv).toNat)
  case atStart=>exact ⟨0,rfl,HM0.out,K2.out⟩
  case round=>
   obtain ⟨k,rfl,hma,hf⟩:=hrel;have hkl:=HFK.out k hma;clear K2;obtain ⟨HMA,HF⟩:=aO hma hf;clear hma hf
   by_cases hlt:k<es.length
   ·obtain ⟨b,off,x,rfl,hx,hcs⟩:=HAT.out k hlt
    have hee:∀V,Fr No W2 V→V.cell? ⟨b,off+k*10,none⟩=some (.int .i64 x.term):=fun V hV=>(hcs V hV).1;obtain ⟨xt,xe⟩:=x;simp only at hee;have hwr:IntKind.i64.wrap ((i:Int)+(k:Int))=(i:Int)+(k:Int):=IntWalk.i64_in _ oy;have hlt2:(k:Int)<(es.length:Int):=by omega
    have hd:decide (k<es.length)=true:=by simpa using hlt
    have hd2:decide ((k:Int)<(es.length:Int))=true:=by simpa using hlt
    clear hcs;obtain ⟨HEE,HX⟩:=aO hee hx;clear hee hx
    by_cases he:TA ((i:Int)+(k:Int))=xt
    ·have heq:(TA ((i:Int)+(k:Int)) == xt)=true:=by simpa using he
     have HE:=O he;clear he
     go_wp2_with fail
     refine wp_region_held_drew (S:=fun V=>Fr No W2 V∧V.cell? ⟨g,4,none⟩=some (.int .i64 (i:Int))∧V.cell? ⟨g,8,none⟩=some (.slice (some ⟨b,off,none⟩) es.length c)∧V.cell? ⟨p,0,none⟩=some (.pointer (some ⟨j,0,none⟩))∧V.cell? ⟨b,off+k*10,none⟩=some (.int .i64 xt)) (by kernel_rfl) (⟨HF.out.drew,(HC3.out _ (HF.out.drew)).2.2.2.2.1,(HC3.out _ (HF.out.drew)).2.2.2.2.2.2.2.2,(HP0.out _ (HF.out.drew)).1,HEE.out _ (HF.out.drew)⟩) (fun hHeld=> ?_);refine I 0 rfl ?_;simp only [Act.put,J];refine I 1 rfl ?_;simp only [Act.put,J];refine I 2 rfl ?_;simp only [Act.put,J];refine I 3 rfl ?_;simp only [Act.put,J];refine I 4 rfl ?_;simp only [Act.put,J];refine I 5 rfl ?_;simp only [Act.put,J];refine I 6 rfl ?_;simp only [Act.put,J];refine I 7 rfl ?_;simp only [Act.put,J];refine I 8 rfl ?_;simp only [Act.put,J];refine I 9 rfl ?_;simp only [Act.put,J];refine I 10 rfl ?_;simp only [Act.put,J];refine I 11 rfl ?_;simp only [Act.put,J];refine I 12 rfl ?_;simp only [Act.put,J];refine I 13 rfl ?_;simp only [Act.put,J];refine I 15 rfl ?_;simp only [Act.put,J];refine I 16 rfl ?_;simp only [Act.put,J];refine I 17 rfl ?_;simp only [Act.put,J];refine I 18 rfl ?_;simp only [Act.put,J];refine I 19 rfl ?_;simp only [Act.put,J];refine I 20 rfl ?_;simp only [Act.put,J];refine wpAnyH_ready (rs:=[14]) (by kernel_rfl) (by simp) (AllReadyH.cons rfl (fun K hK=> ?_) AllReadyH.nil)
     go_simp
     try rw [hwr]
     refine (HTA.out _ hHeld.1 _).mono ?_;rintro e w5 ⟨rfl,q6⟩;have QV:=O (hHeld.1.ah q6)
     go_wp2_with fail
     clear hHeld;refine hK.out _ _ (⟨QV.out,(HC3.out _ (QV.out)).2.2.2.2.1,(HC3.out _ (QV.out)).2.2.2.2.2.2.2.2,(HP0.out _ (QV.out)).1,HEE.out _ (QV.out)⟩) (fun hHeld=> ?_);clear hK K QV
     try simp only [Act.put,J]
     refine I 21 rfl ?_;simp only [Act.put,J];refine I 22 rfl ?_;simp only [Act.put,J];refine wpAnyH_done (by kernel_rfl) ?_ _;have K2:=O hHeld.1;clear hHeld
     go_wp2_with fail
     go_roundw
     case rel=>exact ⟨k+1,by go_num,HMN.out k ⟨xt,xe⟩ HMA.out HX.out HE.out,K2.out⟩
     case measure=>simp [intOf];omega
    ·have heq:(TA ((i:Int)+(k:Int)) == xt)=false:=by simpa using he
     have hst:=HMS.out k ⟨xt,xe⟩ HMA.out HX.out he;clear he
     by_cases hcp:i+k<r.commit
     ·have hc1:decide (i+k<r.commit)=true:=by simpa using hcp
      have hc2:decide ((i:Int)+(k:Int)<(r.commit:Int))=true:=by simp;omega
      have hov:=Q1.out k hst hlt hcp;obtain ⟨HST,HOV⟩:=aO hst hov;clear hst hov
      go_wp2_with fail
      refine wp_region_held_drew (S:=fun V=>Fr No W2 V∧V.cell? ⟨g,4,none⟩=some (.int .i64 (i:Int))∧V.cell? ⟨g,8,none⟩=some (.slice (some ⟨b,off,none⟩) es.length c)∧V.cell? ⟨p,0,none⟩=some (.pointer (some ⟨j,0,none⟩))∧V.cell? ⟨b,off+k*10,none⟩=some (.int .i64 xt)) (by kernel_rfl) (⟨HF.out.drew,(HC3.out _ (HF.out.drew)).2.2.2.2.1,(HC3.out _ (HF.out.drew)).2.2.2.2.2.2.2.2,(HP0.out _ (HF.out.drew)).1,HEE.out _ (HF.out.drew)⟩) (fun hHeld=> ?_);refine I 0 rfl ?_;simp only [Act.put,J];refine I 1 rfl ?_;simp only [Act.put,J];refine I 2 rfl ?_;simp only [Act.put,J];refine I 3 rfl ?_;simp only [Act.put,J];refine I 4 rfl ?_;simp only [Act.put,J];refine I 5 rfl ?_;simp only [Act.put,J];refine I 6 rfl ?_;simp only [Act.put,J];refine I 7 rfl ?_;simp only [Act.put,J];refine I 8 rfl ?_;simp only [Act.put,J];refine I 9 rfl ?_;simp only [Act.put,J];refine I 10 rfl ?_;simp only [Act.put,J];refine I 11 rfl ?_;simp only [Act.put,J];refine I 12 rfl ?_;simp only [Act.put,J];refine I 13 rfl ?_;simp only [Act.put,J];refine I 15 rfl ?_;simp only [Act.put,J];refine I 16 rfl ?_;simp only [Act.put,J];refine I 17 rfl ?_;simp only [Act.put,J];refine I 18 rfl ?_;simp only [Act.put,J];refine I 19 rfl ?_;simp only [Act.put,J];refine I 20 rfl ?_;simp only [Act.put,J];refine wpAnyH_ready (rs:=[14]) (by kernel_rfl) (by simp) (AllReadyH.cons rfl (fun K hK=> ?_) AllReadyH.nil)
      go_simp
      try rw [hwr]
      refine (HTA.out _ hHeld.1 _).mono ?_;rintro e w5 ⟨rfl,q6⟩;have QV:=O (hHeld.1.ah q6)
      go_wp2_with fail
      clear hHeld;refine hK.out _ _ (⟨QV.out,(HC3.out _ (QV.out)).2.2.2.2.1,(HC3.out _ (QV.out)).2.2.2.2.2.2.2.2,(HP0.out _ (QV.out)).1,HEE.out _ (QV.out)⟩) (fun hHeld=> ?_);clear hK K QV
      try simp only [Act.put,J]
      refine I 21 rfl ?_;simp only [Act.put,J];refine I 22 rfl ?_;simp only [Act.put,J];refine wpAnyH_done (by kernel_rfl) ?_ _;have K2:=O hHeld.1;clear hHeld;obtain ⟨c0,c1,c2,c3,c4,c5,c6,c7,c8⟩:=HC3.out _ K2.out;obtain ⟨p0,p4,pf4⟩:=HP0.out _ K2.out;clear hwr
      go_wp2_with fail
      go_ret
      rw [HOV.out];exact aQ.mk' (bS.out _ _ _ (bZ.out _ K2.out)) (fF.none_ _)
     ·have hc1:decide (i+k<r.commit)=false:=by simpa using hcp
      have hc2:decide ((i:Int)+(k:Int)<(r.commit:Int))=false:=by simp;omega
      obtain ⟨hov,-,-,hC,htm⟩:=Q2.out k hst hlt hcp;have hrp:=fun V hf=>qY.out V hf b off k rfl hlt hst hcp;simp only [Int.natCast_add,List.length_drop] at hrp;have hsl:=ahu.out b off k hlt;obtain ⟨HST,HOV,HTM,HRP,HC⟩:=jr hst hov htm hrp hC;clear hst hov htm hrp hC
      go_wp2_with fail
      refine wp_region_held_drew (S:=fun V=>Fr No W2 V∧V.cell? ⟨g,4,none⟩=some (.int .i64 (i:Int))∧V.cell? ⟨g,8,none⟩=some (.slice (some ⟨b,off,none⟩) es.length c)∧V.cell? ⟨p,0,none⟩=some (.pointer (some ⟨j,0,none⟩))∧V.cell? ⟨b,off+k*10,none⟩=some (.int .i64 xt)) (by kernel_rfl) (⟨HF.out.drew,(HC3.out _ (HF.out.drew)).2.2.2.2.1,(HC3.out _ (HF.out.drew)).2.2.2.2.2.2.2.2,(HP0.out _ (HF.out.drew)).1,HEE.out _ (HF.out.drew)⟩) (fun hHeld=> ?_);refine I 0 rfl ?_;simp only [Act.put,J];refine I 1 rfl ?_;simp only [Act.put,J];refine I 2 rfl ?_;simp only [Act.put,J];refine I 3 rfl ?_;simp only [Act.put,J];refine I 4 rfl ?_;simp only [Act.put,J];refine I 5 rfl ?_;simp only [Act.put,J];refine I 6 rfl ?_;simp only [Act.put,J];refine I 7 rfl ?_;simp only [Act.put,J];refine I 8 rfl ?_;simp only [Act.put,J];refine I 9 rfl ?_;simp only [Act.put,J];refine I 10 rfl ?_;simp only [Act.put,J];refine I 11 rfl ?_;simp only [Act.put,J];refine I 12 rfl ?_;simp only [Act.put,J];refine I 13 rfl ?_;simp only [Act.put,J];refine I 15 rfl ?_;simp only [Act.put,J];refine I 16 rfl ?_;simp only [Act.put,J];refine I 17 rfl ?_;simp only [Act.put,J];refine I 18 rfl ?_;simp only [Act.put,J];refine I 19 rfl ?_;simp only [Act.put,J];refine I 20 rfl ?_;simp only [Act.put,J];refine wpAnyH_ready (rs:=[14]) (by kernel_rfl) (by simp) (AllReadyH.cons rfl (fun K hK=> ?_) AllReadyH.nil)
      go_simp
      try rw [hwr]
      refine (HTA.out _ hHeld.1 _).mono ?_;rintro e w5 ⟨rfl,q6⟩;have QV:=O (hHeld.1.ah q6)
      go_wp2_with fail
      clear hHeld;refine hK.out _ _ (⟨QV.out,(HC3.out _ (QV.out)).2.2.2.2.1,(HC3.out _ (QV.out)).2.2.2.2.2.2.2.2,(HP0.out _ (QV.out)).1,HEE.out _ (QV.out)⟩) (fun hHeld=> ?_);clear hK K QV
      try simp only [Act.put,J]
      refine I 21 rfl ?_;simp only [Act.put,J];refine I 22 rfl ?_;simp only [Act.put,J];refine wpAnyH_done (by kernel_rfl) ?_ _;have K2:=O hHeld.1;clear hHeld;obtain ⟨c0,c1,c2,c3,c4,c5,c6,c7,c8⟩:=HC3.out _ K2.out;obtain ⟨p0,p4,pf4⟩:=HP0.out _ K2.out;clear hwr
      go_wp2_with fail
      refine (HRP.out _ K2.out).mono ?_;rintro e w7 ⟨rfl,t7⟩;obtain ⟨HB3,TT⟩:=aO (ag2.out _ _ _ _ K2.out t7) (RTo.after K2.out t7);clear t7 c0 c1 c2 c3 c4 c5 c6 c7 c8 p0 p4 pf4;have hC:=HC.out;obtain ⟨G3,a3,i3,f3⟩:=TT.out;have hb3:=HB3.out;obtain ⟨c0,c1,c2,c3,c4,c5,c6,c7,c8⟩:=aL hb3;simp only at c0 c1 c2 c3 c4 c5 c6 c7 c8;obtain ⟨p4,pf4⟩:w7.cell? ⟨p,4,none⟩=some (.int .i64 (r.commit:Int))∧w7.frozen? ⟨p,4,none⟩=false:=(let ⟨_,_,_,_,_,h1,_⟩:=a3;⟨h1.cell 4,h1.frozen 4⟩);have hset:=(a3.commits rfl C hC).quiet ((Fr.refl No _).drew);have hb4:Blk ((w7.setCell ⟨p,4,none⟩ (.int .i64 (C:Int))).drew) g TMs _:=hb3.aF hgp (.int .i64 (C:Int));have hrf:=fun V r' N (h:RTo w7 G3 p r' N V)=>bS.out r' N V (RTo.then f3 i3 h);clear a3 i3 f3 hb3 HB3 TT;obtain ⟨jQ,HB4,HRF⟩:=bP hset hb4 hrf;clear hset hb4 hrf
      go_wp2_with fail
      go_region
      all_goals
       rw [HCV.out];generalize (if (i:Int)+(es.length:Int)<(mc:Int) then (i:Int)+(es.length:Int) else (mc:Int))=mn;have hr9:=HRF.out _ _ _ jQ.out;obtain ⟨c0,c1,c2,c3,c4,c5,c6,c7,c8⟩:=aL HB4.out;simp only at c0 c1 c2 c3 c4 c5 c6 c7 c8;obtain ⟨G5,a5,i5,f5⟩:=jQ.out;have hst:=kL a5 mf ((i:Int)+(es.length:Int)) true;rw [ae0.out {r with role:=1,js:=replaceS r.js (i+k) (es.drop k),commit:=C} rfl HTM.out] at hst;clear a5 i5 f5 jQ HB4 HRF;generalize (w7.setCell ⟨p,4,none⟩ (.int .i64 (C:Int))).drew=w8 at*;obtain ⟨HST,HR9⟩:=aO hst hr9;clear hst hr9
       go_wp2_with fail
       refine HST.out.mono ?_;rintro e w9 m9;have M:=O m9;obtain ⟨A5,c5',rfl,-,-⟩:=m9
       go_wp2_with fail
       go_ret
       rw [HOV.out];exact aQ.mk' HR9.out M.out
   ·obtain rfl:k=es.length:=by omega
    have hd:decide (es.length<es.length)=false:=by simp
    have hd2:decide ((es.length:Int)<(es.length:Int))=false:=by simp
    obtain ⟨hov,hC⟩:=Q3.out (HMD.out HMA.out);have HOV:=O hov;clear hov
    go_wp2_with fail
    refine wp_region_held_drew (S:=fun V=>Fr No W2 V∧V.cell? ⟨g,8,none⟩=some (.slice A es.length c)) (by kernel_rfl) (⟨HF.out.drew,(HC3.out _ (HF.out.drew)).2.2.2.2.2.2.2.2⟩) (fun hHeld=> ?_);refine I 0 rfl ?_;simp only [Act.put,J];refine I 1 rfl ?_;simp only [Act.put,J];refine I 2 rfl ?_;simp only [Act.put,J];refine I 3 rfl ?_;simp only [Act.put,J];refine I 4 rfl ?_;simp only [Act.put,J];refine I 5 rfl ?_;simp only [Act.put,J];refine bI 6 rfl rfl ?_;simp only [Act.put,J];refine bI 8 rfl rfl ?_;simp only [Act.put,J];refine bI 10 rfl rfl ?_;simp only [Act.put,J];refine bI 12 rfl rfl ?_;simp only [Act.put,J];refine bI 14 rfl rfl ?_;simp only [Act.put,J];refine bI 16 rfl rfl ?_;simp only [Act.put,J];refine bI 18 rfl rfl ?_;simp only [Act.put,J];refine bI 20 rfl rfl ?_;simp only [Act.put,J];refine I 22 rfl ?_;simp only [Act.put,J];refine wpAnyH_done (by kernel_rfl) ?_ _;have K2:=O hHeld.1;clear hHeld;obtain ⟨c0,c1,c2,c3,c4,c5,c6,c7,c8⟩:=HC3.out _ K2.out;obtain ⟨p0,p4,pf4⟩:=HP0.out _ K2.out;clear c0 c1 c2 c3 c4 c5 c6 c7 c8 p0 p4 pf4;generalize wr.drew=w7 at*;obtain ⟨HB3,TT⟩:=aO (HBW.out _ K2.out) (bZ.out _ K2.out);obtain ⟨G3,a3,i3,f3⟩:=TT.out;have hb3:=HB3.out;obtain ⟨c0,c1,c2,c3,c4,c5,c6,c7,c8⟩:=aL hb3;simp only at c0 c1 c2 c3 c4 c5 c6 c7 c8;obtain ⟨p4,pf4⟩:w7.cell? ⟨p,4,none⟩=some (.int .i64 (r.commit:Int))∧w7.frozen? ⟨p,4,none⟩=false:=(let ⟨_,_,_,_,_,h1,_⟩:=a3;⟨h1.cell 4,h1.frozen 4⟩);have hset:=(a3.commits rfl C hC).quiet ((Fr.refl No _).drew)
    have hb4:Blk ((w7.setCell ⟨p,4,none⟩ (.int .i64 (C:Int))).drew) g TMs _:=hb3.aF hgp (.int .i64 (C:Int));have hrf:=fun V r' N (h:RTo w7 G3 p r' N V)=>bS.out r' N V (RTo.then f3 i3 h);clear a3 i3 f3 hb3 HB3 TT;obtain ⟨jQ,HB4,HRF⟩:=bP hset hb4 hrf;clear hset hb4 hrf
    go_wp2_with fail
    go_region
    all_goals
     rw [HCV.out];generalize (if (i:Int)+(es.length:Int)<(mc:Int) then (i:Int)+(es.length:Int) else (mc:Int))=mn;have hr9:=HRF.out _ _ _ jQ.out;obtain ⟨c0,c1,c2,c3,c4,c5,c6,c7,c8⟩:=aL HB4.out;simp only at c0 c1 c2 c3 c4 c5 c6 c7 c8;obtain ⟨G5,a5,i5,f5⟩:=jQ.out;have hst:=kL a5 mf ((i:Int)+(es.length:Int)) true;rw [ae0.out {r with role:=1,commit:=C} rfl rfl] at hst;clear a5 i5 f5 jQ HB4 HRF;generalize (w7.setCell ⟨p,4,none⟩ (.int .i64 (C:Int))).drew=w8 at*;obtain ⟨HST,HR9⟩:=aO hst hr9;clear hst hr9
     go_wp2_with fail
     refine HST.out.mono ?_;rintro e w9 m9;have M:=O m9;obtain ⟨A5,c5',rfl,-,-⟩:=m9
     go_wp2_with fail
     go_ret
     rw [HOV.out];exact aQ.mk' HR9.out M.out
end
end Go.Proofs.YtjnfmfmglehmbaaGreat
