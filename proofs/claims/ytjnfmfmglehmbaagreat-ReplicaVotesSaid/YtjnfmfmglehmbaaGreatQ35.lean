/-
  The reference's replica: the answer to a candidate.
-/
import Derived.Test.YtjnfmfmglehmbaaGreatQ31
import Derived.Test.YtjnfmfmglehmbaaGreatQ25
namespace Go.Proofs.YtjnfmfmglehmbaaGreat
open Go.ChangeShapes Go.WideShapes Go.ChangeAt Go.RowKit
set_option linter.unusedVariables false
set_option maxRecDepth 100000
set_option maxHeartbeats 4000000
abbrev cZ (kd mf mto mt ix pv cm:Int)(ok:Bool)(v:Value):Array Value:= #[.int .i64 kd,.int .i64 mf,.int .i64 mto,.int .i64 mt,.int .i64 ix,.int .i64 pv,.int .i64 cm,.bool ok,v]
def ami (w:World)(F:Nat→Prop)(p g:Nat)(r:Rs)(n:Nat)(a:Array Value)(wx:World):Prop:=bY w F p r n wx∧Blk wx g TMs a
section
variable {w w' w1:World}{F G Fj F' :Nat→Prop}{p:Nat}{r r' :Rs}{n m:Nat}{V X M V' X' M' :Value}{bs xs ms bs' xs' ms' :List Value}
set_option maxHeartbeats 16000000 in
theorem ah4 (h:bR w F p r n)(m:Ms)(v:Value)(hm:bH r m)(hsz:n+200≤140737488355328):Calls Tryz.prog 106 #[.pointer (some ⟨p,0,none⟩),m.v v] w (aH w F p (r.dK m) (n+48)):=by
 have hok:=h.ok;have hok2:=hok.dK hm;have ake:=hm.f0;have akd:=hm.f1;have h5n:=hok.five;have hle:=h.more (m:=n+48) oy;have hlen:=hok.log.few;have hFl:=h.lt;obtain ⟨j,A,c,V,X,M,hpl,hc1,hc2,iQ⟩:=h.sees;obtain ⟨j',A',c',-,-,hLT,hcl⟩:=h.lasts;unfold maxLen at hc2;have hno:r.grants m=false→r.dK m=(r,[⟨2,r.id,m.from_,r.js.term,0,0,0,false,[]⟩]):=fun hg=>by unfold Rs.dK;rw [hg];rfl
 have hyes:r.grants m=true→r.dK m=({r with js:=⟨m.term,m.from_,r.js.log⟩},[⟨2,r.id,m.from_,r.js.term,0,0,0,true,[]⟩]):=fun hg=>by unfold Rs.dK;rw [hg];rfl
 have hgr:r.grants m=(((m.term == r.js.term) && ((r.js.cu == -1) || (r.js.cu == m.from_))) && (decide (lastT r.js.log<m.prev) || ((m.prev == lastT r.js.log) && decide ((r.js.log.length:Int)≤m.index)))):=by
  unfold Rs.grants;rw [Bool.eq_iff_iff]
  simp [and_assoc]
 have jD:r.grants m=true→∀W (hf:Fr No w W),Calls Tryz.prog 90 #[.pointer (some ⟨p,0,none⟩),.int .i64 r.js.term,.int .i64 m.from_] W fun e w' =>e= .returned (.tuple #[])∧bY W F p {r with js:=⟨m.term,m.from_,r.js.log⟩} (n+48) w' :=fun hg W hf=>by
  have hg2:=hg;unfold Rs.grants at hg2;simp only [decide_eq_true_eq] at hg2;obtain ⟨sx,sj⟩:=fG r.js m.term m.from_ (by have:=hm.t0;omega) hm.t1 oy oy (.inr ⟨hg2.1.symm,hg2.2.1⟩);rw [hyes hg] at hok2;have:=wZ (h.ak hf) m.term m.from_ (by rw [sj];exact hok2) hsz;rw [sj] at this;rw [←hg2.1];exact this
 have htt:r.grants m=true→m.term=r.js.term:=fun hg=>by unfold Rs.grants at hg;simp only [decide_eq_true_eq] at hg;exact hg.1
 have hj:j' =j:=by
  have a:=(hcl w (Fr.refl _ _)).1;have b:=(iQ w (Fr.refl _ _)).1.1;rw [a] at b;injection b with b;injection b with b;injection b with b;injection b with b
 subst hj;have alf:=hle;generalize hGR:r.grants m=GR at*;generalize hOV:r.dK m=OV at*;obtain ⟨kd,mf,mto,mt,ix,pv,cm,ok,es⟩:=m;simp only at*;obtain ⟨W0,hW0⟩:∃W0,W0=w.alloc (.cells (cZ kd mf mto mt ix pv cm ok v) TMs):=⟨_,rfl⟩;have hf0:Fr No w W0:=by rw [hW0];exact aj _ _
 obtain ⟨g,hg⟩:∃g,g=w.heap.size:=⟨_,rfl⟩;have hb:Blk W0 g TMs (cZ kd mf mto mt ix pv cm ok v):=by rw [hW0,hg];exact Blk.new _ _ _
 have hgF:¬F g:=fun hh=>by have:=hFl g hh;omega
 have hC:∀W,Fr No W0 W→(W.cell? ⟨g,1,none⟩=some (.int .i64 mf)∧W.cell? ⟨g,3,none⟩=some (.int .i64 mt)∧W.cell? ⟨g,4,none⟩=some (.int .i64 ix)∧W.cell? ⟨g,5,none⟩=some (.int .i64 pv)):=fun W hf=>let q:=hb.fr hf id;⟨q.cell 1,q.cell 3,q.cell 4,q.cell 5⟩;have hP:∀W,Fr No w W→(W.cell? ⟨p,0,none⟩=some (.pointer (some ⟨j',0,none⟩))∧W.cell? ⟨j',1,none⟩=some (.int .i64 r.js.term)∧W.cell? ⟨j',2,none⟩=some (.int .i64 r.js.cu)∧W.cell? ⟨j',3,none⟩=some (.slice A r.js.log.length c)):=fun W hf=>let ⟨⟨a0,_⟩,b1,b2,b3⟩:=iQ W hf;⟨a0,b1,b2,b3⟩;have hLT:=fun W (hf:Fr No w W)=>hLT W hf;have hbk:=fun V W (hf:Fr No W0 V) (hf' :Fr F V W)=>(hb.fr hf id).fr hf' hgF;obtain ⟨vo,hvo⟩:∃vo,vo=r.js.cu:=⟨_,rfl⟩;obtain ⟨lt,hlt⟩:∃lt,lt=lastT r.js.log:=⟨_,rfl⟩;obtain ⟨ll,hll⟩:∃ll,ll=r.js.log.length:=⟨_,rfl⟩;obtain ⟨t,ht⟩:∃t,t=r.js.term:=⟨_,rfl⟩;rw [←hvo,←hlt,←hll,←ht] at hgr;rw [←hvo,←hll,←ht] at hP;rw [←hlt] at hLT;rw [←ht] at jD hno hyes htt;rw [←hll] at hc1 hlen;have hcase:((mt == t)=false)∨((mt == t)=true∧(vo == -1)=true∧decide (lt<pv)=true)∨((mt == t)=true∧(vo == -1)=true∧decide (lt<pv)=false∧(pv == lt)=true)∨((mt == t)=true∧(vo == -1)=true∧decide (lt<pv)=false∧(pv == lt)=false)∨
   ((mt == t)=true∧(vo == -1)=false∧(vo == mf)=true∧decide (lt<pv)=true)∨((mt == t)=true∧(vo == -1)=false∧(vo == mf)=true∧decide (lt<pv)=false∧(pv == lt)=true)∨((mt == t)=true∧(vo == -1)=false∧(vo == mf)=true∧decide (lt<pv)=false∧(pv == lt)=false)∨((mt == t)=true∧(vo == -1)=false∧(vo == mf)=false):=by
  cases (mt == t)<;>cases (vo == -1)<;>cases (vo == mf)<;>cases decide (lt<pv)<;>cases (pv == lt)<;>simp
 have hov:OV=(OV.1,[⟨2,OV.1.id,mf,OV.1.js.term,0,0,0,GR,[]⟩]):=by
  cases hG:GR
  ·rw [hno hG];simp only [ht]
  ·rw [hyes hG];simp only [htt hG]
 clear h hok hok2 hm hle hb hsz hvo hlt hll ht iQ hcl hGR hOV;obtain ⟨HFL,HLT,HP,HC,HNO,abd,HGR,lW,HW0,HF0,HG,ajr⟩:=gY hFl hLT hP hC hno hyes hgr jD hW0 hf0 hg alf;obtain ⟨HBK,HTT,uP,HOV⟩:=fK hbk htt hcase hov;clear hFl hLT hP hC hno hyes hgr jD hW0 hf0 hg alf hbk htt hcase hov
 go_in
 obtain ⟨a0,a1,a2,a3⟩:=HP.out _ HF0.out
 go_upto_region 1 with fail
 rw [←HW0.out,←HG.out]
 go_wp2_with fail
 refine (HLT.out _ HF0.out).mono ?_;rintro e w1 ⟨rfl,f1⟩;obtain ⟨F1,G1⟩:=aO (HF0.out.ah f1) f1;clear f1 a0 a1 a2 a3;obtain ⟨a0,a1,a2,a3⟩:=HP.out _ F1.out;obtain ⟨c1,c3,c4,c5⟩:=HC.out _ G1.out
 go_upto_region 2 with fail
 go_cut [6] (fun x wx=>x= .bool GR∧∃k,wx=w1.drewN k)
 case first=>
  rcases uP.out with u1|⟨u1,u2,u3⟩|⟨u1,u2,u3,u4⟩|⟨u1,u2,u3,u4⟩|⟨u1,u2,u3,u4⟩|⟨u1,u2,u3,u4,u5⟩|⟨u1,u2,u3,u4,u5⟩|⟨u1,u2,u3⟩
  all_goals
   clear uP
   go_wp2_with fail
   go_quiet (fail)
   go_wp2_with fail
   go_meet
   exact ⟨by rw [HGR.out];simp [*],_,rfl⟩
 case rest=>
  obtain ⟨rfl,k,rfl⟩:=hcut;replace F1:=O (F1.out.drewN k);replace G1:=O (G1.out.drewN k);clear a0 a1 a2 a3 c1 c3 c4 c5;generalize w1.drewN k=w1 at*;clear uP HLT HGR
  go_upto_if 69 with fail
  go_cut [] (fun wx=>ami w F p g OV.1 (n+48) (cZ kd mf mto mt ix pv cm ok v) wx)
  case first=>
   obtain ⟨a0,a1,a2,a3⟩:=HP.out _ F1.out;obtain ⟨c1,c3,c4,c5⟩:=HC.out _ G1.out;have k1:=F1.out;have k2:=G1.out
   cases GR
   ·have T:=O (show ami w F p g OV.1 (n+48) (cZ kd mf mto mt ix pv cm ok v) w1 from ⟨by rw [HNO.out rfl];exact ajr.out.still F1.out,HBK.out _ _ G1.out (Fr.refl _ _)⟩)
    clear HNO abd lW ajr HBK HTT HOV
    go_wp2_with fail
    go_meet
    exact T.out
   ·have hyes:=abd.out rfl
    have jD:=lW.out rfl;clear HNO abd lW HTT HOV;obtain ⟨lW,abd⟩:=aO jD hyes;clear jD hyes
    go_wp2_with fail
    go_region_with ((go_at_call 90;refine (lW.out _ frz).mono ?_;rintro e w2 ⟨rfl,t2⟩;have t3:=bY.after (w:=w) frz t2;have b3:=HBK.out _ w2 frz (let ⟨_,_,_,f⟩:=t2;f);clear t2;have T3:=O t3;have B3:=O b3;clear t3 b3))
    all_goals
     go_wp2_with fail
     go_meet
     exact ⟨by rw [abd.out];exact T3.out,B3.out⟩
  case rest=>
   obtain ⟨t3,b3⟩:=hcut;obtain ⟨F3,a3,i3,f3⟩:=t3;obtain ⟨j3,A3,c3',V3,X3,M3,-,-,-,hs3⟩:=a3.sees;have hS:∀W,Fr No wc W→(W.cell? ⟨p,0,none⟩=some (.pointer (some ⟨j3,0,none⟩))∧W.cell? ⟨p,1,none⟩=some (.int .i64 (OV.1.id:Int))∧W.cell? ⟨j3,1,none⟩=some (.int .i64 OV.1.js.term)∧W.cell? ⟨g,1,none⟩=some (.int .i64 mf)):=fun W hW=>by
    obtain ⟨⟨p0,p1,-⟩,q1,-⟩:=hs3 W hW;exact ⟨p0,p1,q1,(b3.fr hW id).cell 1⟩
   have hfin:=fun e w' (k:fF wc [⟨2,OV.1.id,mf,OV.1.js.term,0,0,0,GR,[]⟩] e w')=>aH.mk' (⟨F3,a3,i3,f3⟩:bY w F p OV.1 (n+48) wc) k;rw [←HOV.out] at hfin;generalize OV.1.js.term=t3 at*;generalize (OV.1.id:Int)=id3 at*;have hd:=hS wc.drew (Fr.refl _ _).drew;obtain ⟨x0,x1,x2,x3⟩:=hS wc (Fr.refl _ _);clear a3 i3 f3 hs3 b3 HNO abd lW ajr HBK HTT HOV HP HC F1 G1;obtain ⟨HS,bS⟩:=aO hS hfin;clear hS hfin
   go_wp2_with fail
   go_region_held3 (fun V=>V.cell? ⟨p,0,none⟩=some (.pointer (some ⟨j3,0,none⟩))∧V.cell? ⟨p,1,none⟩=some (.int .i64 id3)∧V.cell? ⟨j3,1,none⟩=some (.int .i64 t3)∧V.cell? ⟨g,1,none⟩=some (.int .i64 mf)) (first|exact hd|exact HS.out _ frz) (fail)
   all_goals
    go_wp2_with fail
    go_ret
    exact bS.out _ _ ⟨_,_,rfl,bF.one (m:=⟨2,id3,mf,t3,0,0,0,GR,[]⟩) (Blk.new _ _ _) (by simp) (Ent.nil _ _),frz⟩
end
end Go.Proofs.YtjnfmfmglehmbaaGreat
