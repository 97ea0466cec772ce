/-
  The reference's replica: it votes for itself, and asks for votes.
-/
import Derived.Test.YtjnfmfmglehmbaaGreatQ27
import Derived.Deep.RegionWith
namespace Go.Proofs.YtjnfmfmglehmbaaGreat
open Go.ChangeShapes Go.WideShapes Go.ChangeAt Go.RowKit
set_option linter.unusedVariables false
set_option maxRecDepth 100000
set_option maxHeartbeats 4000000
theorem vY:(Tryz.prog.info? TBo).map (fun i=>(i.zero,i.size,i.bytes))=some (some (.bool false),1,1):=by kernel_rfl
theorem rC (n:Nat)(hn:n≤5)(w:World):(Instr.makeSlice 80 (.int .i64 (n:Int)) (.int .i64 (n:Int))).run Tryz.prog w= .ok (.slice (some ⟨w.heap.size,0,none⟩) n n) (w.alloc (.cells (jc 0 n).toArray TBo)):=by
 obtain ⟨i1,hi1,hz0,hz1,hz2⟩:=info_parts vY;have h:=run_make (P:=Tryz.prog) w 80 TBo i1 _ Tryz.underlying80 hi1 hz0 .i64 .i64 (n:Int) (n:Int) oy (Int.le_refl _) (by rw [hz2];omega) oy;rw [h,Int.toNat_natCast,hz1,aam]
theorem wG (v n k:Nat):((jc v n).toArray).setIfInBounds k (.bool true)=(jc (v |||2 ^ k) n).toArray:=by
 rw [List.setIfInBounds_toArray]
 congr 1
 unfold jc
 apply List.ext_getElem
 ·simp
 ·intro i h1 h2
  rw [List.getElem_set];simp only [List.getElem_map,List.getElem_range,Nat.testBit_or,Nat.testBit_two_pow]
  split
  ·rename_i h;subst h;simp
  ·rename_i h;simp [h]
section
variable {w w' w1:World}{F G Fj F' :Nat→Prop}{p:Nat}{r r' :Rs}{n m:Nat}{V X M V' X' M' :Value}{bs xs ms bs' xs' ms' :List Value}
theorem bR.put {j:Nat}(h3:RG true w Fj j r.js n)(h4:∀i,Fj i→F i)(h5:¬Fj p)(hf:Fr G w w')(hG:∀i,Fj i→¬G i)(hGF:∀i,G i→F i)(hb:Blk w' p TRR (gH j r' V' X' M'))(hp:F p)(hjs:r'.js=r.js)
  (h7:Rows w' F' Fj r' V' X' M' bs' xs' ms') (h8:∀i,F i→i<w.heap.size) (hF1:∀i,F i→F' i) (hF2:∀i,F' i→F i∨w.heap.size≤i) (hF3:∀i,F' i→i<w'.heap.size) (hr:bU r'):bY w F p r' n w' :=by
 refine ⟨F',⟨j,Fj,V',X',M',bs',xs',ms',hb,hF1 p hp,?_,fun i hi=>hF1 i (h4 i hi),h5,hF3,h7,hr⟩,hF2,hf.mono hGF⟩;rw [hjs];exact h3.fr hf hG
theorem bR.lasts (h:bR w F p r n):∃j A c,r.js.log.length≤c∧c≤maxLen∧(∀W,Fr No w W→Calls Tryz.prog 93 #[.pointer (some ⟨j,0,none⟩)] W fun e w' =>e= .returned (.int .i64 (lastT r.js.log))∧Fr No W w')∧
  ∀W,Fr No w W→(W.cell? ⟨p,0,none⟩=some (.pointer (some ⟨j,0,none⟩))∧W.cell? ⟨p,1,none⟩=some (.int .i64 (r.id:Int))∧W.cell? ⟨j,1,none⟩=some (.int .i64 r.js.term)∧W.cell? ⟨j,3,none⟩=some (.slice A r.js.log.length c)):=by
 obtain ⟨j,Fj,V,X,M,bs,xs,ms,h1,h2,hj,h4⟩:=h;obtain ⟨d,A,c,b1,b2,b3⟩:=hj.open_;obtain ⟨c1,c2⟩:=b3.cap;refine ⟨j,A,c,c1,c2,fun W hW=>aii (hj.ak hW),fun W hW=> ?_⟩;have q:=h1.fr hW id;have k:=b1.fr hW id;exact ⟨q.cell 0,q.cell 1,k.cell 1,k.cell 3⟩
def apf (w:World)(F:Nat→Prop)(p:Nat)(r:Rs)(n:Nat)(wx:World):Prop:=∃r3:Rs,r.aJ=(r3,(others r3.id r3.n).map r3.cu)∧bY w F p r3 n wx
set_option maxHeartbeats 8000000 in
theorem pW (h:bR w F p r n)(hsz:n+200≤140737488355328):Calls Tryz.prog 41 #[.pointer (some ⟨p,0,none⟩)] w (aH w F p r.aJ (n+48)):=by
 have hok:=h.ok;have hid:=hok.idn;have h5n:=hok.five;have hlo:=hok.lo;have hhi:=hok.hi;have lK:=hok.log.few;have hle:=h.more (m:=n+48) oy;obtain ⟨j,A,c,V,X,M,hpl,hc1,hc2,iQ⟩:=h.sees;obtain ⟨⟨p0,p1,-⟩,q1,-⟩:=iQ w (Fr.refl _ _)
 by_cases hT:1073741824≤r.js.term
 ·have hpl:r.aJ=(r,[]):=by unfold Rs.aJ;rw [if_pos hT]
  rw [hpl];have hfin:=aH.mk' hle.self (fF.none_ w);generalize r.js.term=t at*;have t1:decide (1073741824≤t)=true:=decide_eq_true hT;clear h hle hok hpl iQ;have bS:=O hfin;clear hfin
  go_in
  go_wp2_with fail
  go_ret
  exact bS.out
 obtain ⟨sx,sj⟩:=fG r.js (r.js.term+1) r.id oy oy oy oy (.inl oy);have jD:=fun W (hf:Fr No w W)=>wZ (h.ak hf) (r.js.term+1) r.id (by rw [sj];exact ⟨hok.log.up (by simp only;omega),by simp only;omega,by simp only;omega,by simp only;omega,by simp only;omega,hok.idn,hok.five,hok.role,hok.com,hok.vts,hok.nxt,hok.mts⟩) hsz;rw [sj] at jD;have t1:decide (1073741824≤r.js.term)=false:=decide_eq_false hT;have hwr:IntKind.i64.wrap (r.js.term+1)=r.js.term+1:=IntWalk.i64_in _ oy;have hp1:r.n=1→r.aJ=(({r with js:=⟨r.js.term+1,r.id,r.js.log⟩,role:=2,aY:=2 ^ r.id}:Rs).lead,[]):=fun hh=>by unfold Rs.aJ;rw [if_neg hT,if_pos hh]
 have hp2:¬r.n=1→r.aJ=(({r with js:=⟨r.js.term+1,r.id,r.js.log⟩,role:=2,aY:=2 ^ r.id}:Rs),(others r.id r.n).map ({r with js:=⟨r.js.term+1,r.id,r.js.log⟩,role:=2,aY:=2 ^ r.id}:Rs).cu):=fun hh=>by unfold Rs.aJ;rw [if_neg hT,if_neg hh]
 have hok1:bU {r with js:=⟨r.js.term+1,r.id,r.js.log⟩,role:=2,aY:=2 ^ r.id}:=⟨hok.log.up (by simp only;omega),by simp only;omega,by simp only;omega,by simp only;omega,by simp only;omega,hok.idn,hok.five,.inr (.inl rfl),hok.com,by
   have:(2:Nat) ^ r.id<2 ^ 5:=Nat.pow_lt_pow_right oy oy
   simpa using this,fun hh=>by simp at hh,fun hh=>by simp at hh⟩
 have hmk:=rC r.n h5n;clear sx sj hle iQ hok;obtain ⟨lW,HP1,HP2,aoz⟩:=fK jD hp1 hp2 hok1;clear jD hp1 hp2 hok1
 go_in
 go_upto_region 3 with fail
 go_cut [] (fun wx=>bY w F p {r with js:=⟨r.js.term+1,r.id,r.js.log⟩} (n+48) wx)
 case first=>
  go_wp2_with fail
  go_region_with ((go_at_call 90;refine (lW.out _ frz).mono ?_;rintro e w1 ⟨rfl,t2⟩;have t2' :=bY.after (w:=w) frz t2;clear t2;have T2:=O t2';clear t2'))
  all_goals
   go_wp2_with fail
   go_meet
   exact T2.out
 case rest=>
  obtain ⟨G1,⟨j1,Fj,V1,X1,M1,bs,xs,ms,b1,b2,b3,b4,b5,b6,b7,-⟩,i1,f1⟩:=hcut;have c1:wc.cell? ⟨p,1,none⟩=some (.int .i64 (r.id:Int)):=b1.cell 1;have c2:wc.cell? ⟨p,2,none⟩=some (.int .i64 (r.n:Int)):=b1.cell 2;have c3:wc.cell? ⟨p,3,none⟩=some (.int .i64 r.role):=b1.cell 3;have c5:wc.cell? ⟨p,5,none⟩=some V1:=b1.cell 5;have k3:=b1.frozen 3;have k5:=b1.frozen 5;have apy:=b1.lt;obtain ⟨W1,hW1⟩:∃W1,W1=((wc.setCell ⟨p,3,none⟩ (.int .i64 2)).setCell ⟨p,5,none⟩ (.slice (some ⟨wc.heap.size,0,none⟩) r.n r.n)).alloc (.cells (jc 0 r.n).toArray TBo):=⟨_,rfl⟩;obtain ⟨g,hg⟩:∃g,g=wc.heap.size:=⟨_,rfl⟩;have e1:Blk W1 p TRR #[.pointer (some ⟨j1,0,none⟩),.int .i64 r.id,.int .i64 (r.n:Int),.int .i64 2,.int .i64 r.commit,.slice (some ⟨g,0,none⟩) r.n r.n,X1,M1]:=by rw [hW1,hg];exact (((b1.aU 3 _).aU 5 _).conv rfl).fr (aj _ _) (fun h=>h)
  have e2:Blk W1 g TBo (jc 0 r.n).toArray:=by rw [hW1,hg];have:=Blk.new ((wc.setCell ⟨p,3,none⟩ (.int .i64 2)).setCell ⟨p,5,none⟩ (.slice (some ⟨wc.heap.size,0,none⟩) r.n r.n)) TBo (jc 0 r.n).toArray;simpa using this
  have e3:Fr (fun i=>i=p) wc W1:=by rw [hW1];exact (((Fr.refl (fun i=>i=p) wc).setCell (p:=⟨p,3,none⟩) (.inl rfl) _).setCell (p:=⟨p,5,none⟩) (.inl rfl) _).alloc _
  rw [←hg] at hW1;have arv:(r.id:Int)<(r.n:Int):=by omega
  have d0:W1.cell? ⟨p,1,none⟩=some (.int .i64 (r.id:Int)):=e1.cell 1;have d5:W1.cell? ⟨p,5,none⟩=some (.slice (some ⟨g,0,none⟩) r.n r.n):=e1.cell 5;have d2:W1.cell? ⟨p,2,none⟩=some (.int .i64 (r.n:Int)):=e1.cell 2;have dg:W1.cell? ⟨g,r.id,none⟩=some (.bool ((0:Nat).testBit r.id)):=by rw [e2.cell,List.getElem?_toArray,ni hid]
  have fg:=e2.frozen r.id;have hgl:wc.heap.size≤g:=by rw [hg];exact Nat.le_refl _
  obtain ⟨B1,B2,B3,B4,B5,B6,B7,I1,F1,HW1,HG,E1⟩:=gY b1 b2 b3 b4 b5 b6 b7 i1 f1 hW1 hg e1;obtain ⟨E2,E3⟩:=aO e2 e3;clear b1 b2 b3 b4 b5 b6 b7 i1 f1 hW1 hg e1 e2 e3
  go_wp2_with fail
  rw [←HG.out,←HW1.out]
  go_region
  all_goals
   obtain ⟨W2,hW2⟩:∃W2,W2=(W1.setCell ⟨g,r.id,none⟩ (.bool true)).drew:=⟨_,rfl⟩;rw [←hW2];have hpg:p≠g:=by omega
   have hf2:Fr (fun i=>i=p) wc W2:=by rw [hW2];exact (E3.out.setCell (p:=⟨g,r.id,none⟩) (.inr hgl) _).drew
   have hb2:Blk W2 p TRR #[.pointer (some ⟨j1,0,none⟩),.int .i64 r.id,.int .i64 (r.n:Int),.int .i64 2,.int .i64 r.commit,.slice (some ⟨g,0,none⟩) r.n r.n,X1,M1]:=by rw [hW2];exact (E1.out.fr ((Fr.refl (fun i=>i=g) W1).setCell (p:=⟨g,r.id,none⟩) (.inl rfl) _) hpg).dA
   have hv2:Blk W2 g TBo (jc (2 ^ r.id) r.n).toArray:=by rw [hW2];have:=E2.out.aU r.id (.bool true);rw [wG,Nat.zero_or] at this;exact this.dA
   have hfl:∀i,Fj i→i<wc.heap.size:=fun i hi=>B6.out i (B4.out i hi);have hs2:=hf2.size;have t2:bY wc G1 p {r with js:=⟨r.js.term+1,r.id,r.js.log⟩,role:=2,aY:=2 ^ r.id} (n+48) W2:=
    bR.put (r:={r with js:=⟨r.js.term+1,r.id,r.js.log⟩}) (V' := .slice (some ⟨g,0,none⟩) r.n r.n) (X' :=X1) (M' :=M1) (bs' :=jc (2 ^ r.id) r.n) (F' :=fun i=>G1 i∨i=g) B3.out B4.out B5.out hf2 (fun i hi e=>B5.out (e▸hi)) (fun i hi=>hi▸B2.out) hb2 B2.out rfl
     ⟨Own.blk hv2 (jo _ _) mxl (.inr rfl),(B7.out.ox.mono fun i hi=> .inl hi).fr' hf2 fun q hq e=>B7.out.ox.fT B1.out dcd q hq e,(B7.out.om.mono fun i hi=> .inl hi).fr' hf2 fun q hq e=>B7.out.om.fT B1.out dcd q hq e,(fun q hq hh=>by simp [Value.ownBlock] at hq;have:=hfl q hh;omega),B7.out.ax,B7.out.am,B7.out.xm,(fun _=>rfl),(fun hh=>by simp at hh),⟨tJ _ (by first|exact h5n|exact aoz.out.five),B7.out.one.2⟩⟩
     B6.out (fun i hi=> .inl hi) (fun i hi=>hi.imp id fun h=>by omega) (fun i hi=>hi.elim (fun h=>nll (B6.out i h) hs2) fun h=>h▸hv2.lt) aoz.out
   obtain ⟨F2,a2,i2,f2⟩:=bY.then F1.out I1.out t2;have c2:W2.cell? ⟨p,2,none⟩=some (.int .i64 (r.n:Int)):=hb2.cell 2;clear hW2 hf2 hb2 hv2 t2 dg fg d0 d5 d2 B1 B2 B3 B4 B5 B6 B7 F1 I1 E1 E2 E3 hfl hs2
   go_upto_if 52 with fail
   go_cut [] (fun wx=>apf w F p r (n+48) wx)
   case first=>
    by_cases hn1:r.n=1
    ·have u1:((r.n:Int) == 1)=true:=by simp;omega
     have hpl:=HP1.out hn1;have hld:=ab4 a2;have hi0:r.id=0:=by omega
     have hL0:others r.id r.n=[]:=by rw [hi0,hn1];decide
     have T9:=O fun w5 (t5:bY W2 F2 p ({r with js:=⟨r.js.term+1,r.id,r.js.log⟩,role:=2,aY:=2 ^ r.id}:Rs).lead (n+48) w5)=>(show apf w F p r (n+48) w5 from ⟨_,by rw [hpl];simp only [Rs.lead];rw [hL0];rfl,bY.then f2 i2 t5⟩);clear hpl hi0 hL0 hn1 a2 i2 f2;have HLD:=O hld;clear hld
     go_wp2_with fail
     refine HLD.out.mono ?_;rintro e w5 ⟨rfl,t5⟩;have T8:=O (T9.out w5 t5);clear t5 T9
     go_wp2_with fail
     go_meet
     exact T8.out
    ·have u1:((r.n:Int) == 1)=false:=by simp;omega
     have T8:=O (show apf w F p r (n+48) W2 from ⟨_,by rw [HP2.out hn1],F2,a2,i2,f2⟩);clear hn1 a2 i2 f2
     go_wp2_with fail
     go_meet
     exact T8.out
   case rest=>
    clear a2 i2 f2;obtain ⟨r3,hc,F3,a3,i3,f3⟩:=hcut;obtain ⟨i1,hi1,hz0,hz1,hz2⟩:=info_parts jY;have hO:=pV a3;obtain ⟨jj,A3,c3',m1,m2,hLT,hS⟩:=a3.lasts;have h53:=a3.ok.five;have ar0:=a3.ok.log.few;have hfin:=fun e w' (k:fF wc ((others r3.id r3.n).map r3.cu) e w')=>aH.mk' (⟨F3,a3,i3,f3⟩:bY w F p r3 (n+48) wc) k;have hol:=iF r3.id r3.n;have hvt:∀d:Nat,r3.cu d=⟨1,r3.id,d,r3.js.term,r3.js.log.length,lastT r3.js.log,0,false,[]⟩:=fun d=>rfl;generalize hVT:r3.cu=vt at*;generalize others r3.id r3.n=L at*;generalize r3.js.term=tt at*;generalize lastT r3.js.log=lt at*;generalize r3.js.log.length=ll at*;generalize (r3.id:Int)=id3 at*;unfold maxLen at m2;clear a3 i3 f3 hVT HP1 HP2 aoz lW;obtain ⟨HC,HO,HLT,HS,bS,HVT⟩:=lG hc hO hLT hS hfin hvt;clear hc hO hLT hS hfin hvt
    go_wp2_with fail
    refine HO.out.mono ?_;rintro e w3 ⟨v,rfl,hi⟩;obtain ⟨A1,c1,rfl,-,hf1⟩:=id hi;have hS3:=fun W (hf:Fr No w3 W)=>HS.out W (hf1.ah hf);have aqo:=fun W (hf:Fr No w3 W)=>HLT.out W (hf1.ah hf);obtain ⟨HI,HF1,HS3,asy⟩:=fK hi hf1 hS3 aqo;clear hi hf1 hS3 aqo;clear HO HS HLT
    go_wp2_with fail
    go_loopw [3,5] (fun v i wr=>∃k:Nat,k≤L.length∧i= .int .i64 k∧Lst w3 ((L.take k).map vt) v wr) (fun _ i _=>L.length-(intOf i).toNat)
    case atStart=>exact ⟨0,Nat.zero_le _,rfl,Lst.nil _⟩
    case round=>
     obtain ⟨k,hk,rfl,rM⟩:=hrel
     by_cases hlt:k<L.length
     ·have d1:decide (k<L.length)=true:=decide_eq_true hlt
      have d2:decide ((k:Int)<(L.length:Int))=true:=dtt;have hk2:(k:Int)<(L.length:Int):=by omega
      obtain ⟨bL,cL,x,eL,e1,e2,hx,hcx⟩:=HI.out.at_ hlt;injection eL with eL _ eL3;subst eL eL3;unfold maxLen at e2;obtain ⟨ms,hms⟩:∃ms,ms=(L.take k).map vt:=⟨_,rfl⟩;have hml:ms.length≤5:=by rw [hms,List.length_map,List.length_take];omega
      have hnx:(L.take (k+1)).map vt=ms++[⟨1,id3,x,tt,ll,lt,0,false,[]⟩]:=by rw [List.take_add_one,hx,List.map_append,hms,Option.toList_some,List.map_singleton,HVT.out]
      rw [←hms] at rM;obtain ⟨⟨A,c,rfl⟩,⟨Gs,Ge,vs,q1,q2,q3⟩,q4⟩:=rM;have hsn:=fun (W2 W3:World) (v' :Value) (hf2:Fr No wr W2) (ha:bN W2 0 TMs 9 (.slice A ms.length c) ms.length (msV ms vs) (Ms.cells ⟨1,id3,x,tt,ll,lt,0,false,[]⟩ (.slice none 0 0)) 1 v' W3)=>gB.snoc (G:=fun b=>w3.heap.size≤b) (W:=wr) (m:=⟨1,id3,x,tt,ll,lt,0,false,[]⟩) (x:= .slice none 0 0) q1 (fun i hi=>by have:=q4.size;omega) q2 q3 hf2 (Ent.nil _ _) ha;have hown:=fun W (hf:Fr No wr W)=>(q1.own.ak hf).1;have hG:=q2;have hSS:∀W,Fr No w3 W→((W.cell? ⟨p,0,none⟩=some (.pointer (some ⟨jj,0,none⟩))∧W.cell? ⟨p,1,none⟩=some (.int .i64 id3)∧W.cell? ⟨jj,1,none⟩=some (.int .i64 tt)∧W.cell? ⟨jj,3,none⟩=some (.slice A3 ll c3'))∧W.cell? ⟨bL,k,none⟩=some (.int .i64 (x:Int))):=fun W hW=>⟨HS3.out W hW,hcx W hW⟩;have Q4:=q4;have hd:=hSS _ q4.drew;obtain ⟨⟨y0,y1,y2,y3⟩,y4⟩:=hSS _ q4;clear q1 q2 q3 q4 hms hx hcx HS3;obtain ⟨HSN,HOWN,HG,HNX,HSS⟩:=jr hsn hown hG hnx hSS;clear hsn hown hG hnx hSS
      go_wp2_with fail
      go_region_held3 (fun V=>(V.cell? ⟨p,0,none⟩=some (.pointer (some ⟨jj,0,none⟩))∧V.cell? ⟨p,1,none⟩=some (.int .i64 id3)∧V.cell? ⟨jj,1,none⟩=some (.int .i64 tt)∧V.cell? ⟨jj,3,none⟩=some (.slice A3 ll c3'))∧V.cell? ⟨bL,k,none⟩=some (.int .i64 (x:Int))) (first|exact hd|exact HSS.out _ (by repeat (with_reducible first|assumption|exact Fr.refl _ _|refine Fr.alloc ?_ _|refine Fr.drew ?_|refine Fr.drewN ?_ _|refine Fr.setCell ?_ (.inr (by assumption)) _))) (first
       |(go_at_call 93;refine (asy.out _ (by repeat (with_reducible first|assumption|exact Fr.refl _ _|refine Fr.alloc ?_ _|refine Fr.drew ?_|refine Fr.drewN ?_ _|refine Fr.setCell ?_ (.inr (by assumption)) _))).mono ?_;rintro e w2 ⟨rfl,f2⟩;have P2:Fr No wr w2:=Fr.ah (by repeat (with_reducible first|assumption|exact Fr.refl _ _|refine Fr.alloc ?_ _|refine Fr.drew ?_|refine Fr.drewN ?_ _|refine Fr.setCell ?_ (.inr (by assumption)) _)) f2;have P3:Fr No w3 w2:=Q4.ah P2)
       |(refine bf _ rfl (.tmp 63) (.tmp 93) _ rfl 0 TMs i1 _ 9 88 Tryz.underlying63 hi1 hz0 hz1 hz2 rfl dcd (.slice A ms.length c) ms.length (msV ms vs) rfl (HOWN.out _ (by repeat (with_reducible first|assumption|exact Fr.refl _ _|refine Fr.alloc ?_ _|refine Fr.drew ?_|refine Fr.drewN ?_ _|refine Fr.setCell ?_ (.inr (by assumption)) _))) (w2.heap.size+1) (some ⟨w2.heap.size,0,none⟩) 1 1 (Ms.cells ⟨1,id3,x,tt,ll,lt,0,false,[]⟩ (.slice none 0 0)) rfl (fun h=>by cases h) (Rd.new _ _ _ rfl) rfl (sS ⟨1,id3,x,tt,ll,lt,0,false,[]⟩ (w:=w2) (G:=No) (Ent.nil _ _)) mxl oy (Nat.zero_le _) ?_;intro v1 w6 happ;obtain ⟨A',c',rfl,-⟩:=aC happ.1;obtain ⟨hl,f6⟩:=HSN.out _ _ _ (by repeat (with_reducible first|assumption|exact Fr.refl _ _|refine Fr.alloc ?_ _|refine Fr.drew ?_|refine Fr.drewN ?_ _|refine Fr.setCell ?_ (.inr (by assumption)) _)) happ;have P6:Fr No w3 w6:=Fr.aA (Fr.alloc P3 _) f6 HG.out;have HL6:=O hl;clear hl happ f6))
      all_goals
       go_wp2_with fail
       go_roundw
       case rel=>exact ⟨k+1,by omega,by go_num,⟨A',c',by rw [HNX.out,List.length_append];rfl⟩,by rw [HNX.out];exact HL6.out,P6⟩
       case measure=>simp [intOf];omega
     ·obtain rfl:k=L.length:=by omega
      have d1:decide (L.length<L.length)=false:=by simp
      have d2:decide ((L.length:Int)<(L.length:Int))=false:=by simp
      rw [List.take_length] at rM;obtain ⟨⟨A,c,rfl⟩,a2,a3⟩:=rM;have T9:=O (bS.out _ _ (show fF wc (L.map vt) (.returned (.slice A (L.map vt).length c)) wr from ⟨A,c,rfl,a2.mono fun i hi=>Nat.le_trans HF1.out.size hi,HF1.out.ah a3⟩));clear a2 a3
      go_wp2_with fail
      go_ret
      rw [HC.out];exact T9.out
end
end Go.Proofs.YtjnfmfmglehmbaaGreat
