/-
  The program's replica: campaigns, proposals, beats, crashes.
-/
import Derived.Test.YtjnfmfmglehmbaaGreatQ18
namespace Go.Proofs.YtjnfmfmglehmbaaGreat
open Go.ChangeShapes Go.WideShapes Go.ChangeAt Go.RowKit
set_option linter.unusedVariables false
set_option maxRecDepth 100000
set_option maxHeartbeats 4000000
section
def aQ (w:World)(F:Nat→Prop)(p:Nat)(x:Rs×List Ms)(n:Nat)(e:Ending)(w' :World):Prop:=
 ∃A c F' G,e= .returned (.slice A x.2.length c)∧bF w' G (.slice A x.2.length c) x.2∧RAt w' F' p x.1 n∧(∀i,F' i→F i∨w.heap.size≤i)∧(∀i,G i→w.heap.size≤i)∧(∀i,F' i→¬G i)∧Fr F w w'
theorem aQ.mk' {w w1 w' :World}{F:Nat→Prop}{p n:Nat}{r:Rs}{ms:List Ms}{e:Ending}(h:RTo w F p r n w1)(k:fF w1 ms e w'):aQ w F p (r,ms) n e w' :=by
 obtain ⟨F',h1,h2,h3⟩:=h;obtain ⟨A,c,k1,k2,k3⟩:=k;refine ⟨A,c,F',_,k1,k2,h1.ak k3,h2,fun i hi=>Nat.le_trans h3.size hi,fun i hi hh=> ?_,h3.trans k3 fun _ hi=>hi.elim⟩;have:=h1.lt i hi;have hh2:w1.heap.size≤i:=hh
 omega
theorem fF.none_ (w:World):fF w [] (.returned (.slice none 0 0)) w:=⟨none,0,rfl,bF.nil _ _,Fr.refl _ _⟩
theorem RTo.alloc {w w' :World}{F:Nat→Prop}{p n:Nat}{r:Rs}{o:Obj}(h:RTo (w.alloc o) F p r n w'):RTo w F p r n w' :=RTo.after (aj _ _) h
theorem RAt.lC {w:World}{F:Nat→Prop}{p n:Nat}{r:Rs}(h:RAt w F p r n):F p:=let ⟨_,_,_,_,_,_,h2,_⟩:=h;h2
section
variable {w w' :World}{F:Nat→Prop}{p:Nat}{r:Rs}{s:Js}{n:Nat}
theorem kN (h:RAt w F p r n)(hsz:n+200≤140737488355328):Calls Tryz.prog 33 #[.pointer (some ⟨p,0,none⟩)] w (aQ w F p r.aJ (n+48)):=by
 have hok:=h.ok;have hid:=hok.idn;have h5n:=hok.five;have hlo:=hok.lo;have hhi:=hok.hi;obtain ⟨W0,hW0⟩:∃W0,W0=w.alloc (.cells #[.pointer (some ⟨p,0,none⟩)] 24):=⟨_,rfl⟩;have hf0:Fr No w W0:=by rw [hW0];exact aj _ _
 have hb:Blk W0 w.heap.size 24 #[.pointer (some ⟨p,0,none⟩)]:=by rw [hW0];exact Blk.new _ _ _
 have hbF:¬F w.heap.size:=fun hh=>by have:=h.lt _ hh;omega
 have hle:=h.more (m:=n+48) oy;have h0:=h.ak hf0;obtain ⟨b,hbb⟩:∃b,b=w.heap.size:=⟨_,rfl⟩;rw [←hbb] at hb hbF;have cb:W0.cell? ⟨b,0,none⟩=some (.pointer (some ⟨p,0,none⟩)):=hb.cell 0;have hbp:b≠p:=fun hh=>hbF (hh▸h.lC)
 by_cases hT:1073741824≤r.js.term
 ·have hpl:r.aJ=(r,[]):=by unfold Rs.aJ;rw [if_pos hT]
  rw [hpl];have qM:=iq h0.rj;have hfin:=aQ.mk' (hle.still hf0) (fF.none_ W0);generalize r.js.term=t at*;clear h h0 hle hok hb hbF hf0 hpl;obtain ⟨oP,bS,HW0,HBB⟩:=fK qM hfin hW0 hbb;clear qM hfin hW0 hbb
  go_in
  go_wp2_with fail
  rw [←HBB.out,←HW0.out];refine oP.out.mono ?_;rintro e w1 ⟨rfl,rfl⟩
  go_wp2_with fail
  go_ret
  exact bS.out
 ·obtain ⟨sx,sj⟩:=fG r.js (r.js.term+1) r.id oy oy oy oy (.inl oy)
  have jD:=fun W (hf:Fr No W0 W)=>nL (h0.ak hf) (r.js.term+1) r.id (by rw [sj];exact ⟨hok.log.up (by simp only;omega),by simp only;omega,by simp only;omega,by simp only;omega,by simp only;omega,hok.idn,hok.five,hok.role,hok.com,hok.vts,hok.nxt,hok.mts⟩) hsz;rw [sj] at jD;have qM:=fun W (hf:Fr No W0 W)=>iq (h0.ak hf).rj;have hP:∀W,Fr No W0 W→W.cell? ⟨p,1,none⟩=some (.int .i64 (r.id:Int))∧W.cell? ⟨b,0,none⟩=some (.pointer (some ⟨p,0,none⟩)):=fun W hW=>⟨(let ⟨_,_,_,_,_,h1,_⟩:=h0.ak hW;h1.cell 1),(hb.fr hW id).cell 0⟩;have hwr:IntKind.i64.wrap (r.js.term+1)=r.js.term+1:=IntWalk.i64_in _ oy;have hT2:r.js.term<1073741824:=by omega
  have hB:∀W W',Fr No W0 W→Fr F W W'→Blk W' b 24 #[.pointer (some ⟨p,0,none⟩)]:=fun W W' hf hf' =>((hb.fr hf id).fr hf' hbF);have hv:IntKind.i64.wrap (2 ^ min (IntKind.u64.wrap (r.id:Int)).toNat 64)=((2 ^ r.id:Nat):Int):=by
   have:r.id<5:=by omega
   revert this;generalize r.id=i;intro hi
   match i,hi with
   |0,_=>decide
   |1,_=>decide
   |2,_=>decide
   |3,_=>decide
   |4,_=>decide
  have ard:=hok.aJ;have hp1:r.n=1→r.aJ=(({r with js:=⟨r.js.term+1,r.id,r.js.log⟩,role:=2,aY:=2 ^ r.id}:Rs).lead,[]):=fun hh=>by unfold Rs.aJ;rw [if_neg hT,if_pos hh]
  have hp2:¬r.n=1→r.aJ=(({r with js:=⟨r.js.term+1,r.id,r.js.log⟩,role:=2,aY:=2 ^ r.id}:Rs),(others r.id r.n).map ({r with js:=⟨r.js.term+1,r.id,r.js.log⟩,role:=2,aY:=2 ^ r.id}:Rs).cu):=fun hh=>by unfold Rs.aJ;rw [if_neg hT,if_neg hh]
  have hok1:bU {r with js:=⟨r.js.term+1,r.id,r.js.log⟩,role:=2,aY:=2 ^ r.id}:=⟨hok.log.up (by simp only;omega),by simp only;omega,by simp only;omega,by simp only;omega,by simp only;omega,hok.idn,hok.five,.inr (.inl rfl),hok.com,by
   have:(2:Nat) ^ r.id<2 ^ 5:=Nat.pow_lt_pow_right oy oy
   simpa using this,fun hh=>by simp at hh,fun hh=>by simp at hh⟩
  have hall:=fun (V w2 W4:World) {G:Nat→Prop} (hf:Fr No W0 V) (a2:RAt w2 G p {r with js:=⟨r.js.term+1,r.id,r.js.log⟩} (n+48)) (f2:Fr F V w2) (i2:∀i,G i→F i∨V.heap.size≤i) (hW:W4=((w2.setCell ⟨p,3,none⟩ (.int .i64 2)).setCell ⟨p,5,none⟩ (.int .i64 ((2 ^ r.id:Nat):Int))).drew)=>(RTo.after (hf0.ah hf) (RTo.then f2 i2 (let ⟨j,Fj,bits,nx,mt,h1,h2,h3,h4,h5,h6,h7,h8⟩:=a2;RAt.cells (r:={r with js:=⟨r.js.term+1,r.id,r.js.log⟩}) (r' :={r with js:=⟨r.js.term+1,r.id,r.js.log⟩,role:=2,aY:=2 ^ r.id}) h2 h3 h4 h5 h6 (bits' :=((2 ^ r.id:Nat):Int)) (nx' :=nx) (mt' :=mt) (by rw [hW];exact (((Fr.refl (fun i=>i=p) w2).setCell (p:=⟨p,3,none⟩) (.inl rfl) _).setCell (p:=⟨p,5,none⟩) (.inl rfl) _).drew) (by rw [hW];exact (((h1.aU 3 _).aU 5 _).conv rfl).dA) rfl ⟨fun _=>rfl,fun hh=>by simp at hh⟩ hok1)):RTo w F p {r with js:=⟨r.js.term+1,r.id,r.js.log⟩,role:=2,aY:=2 ^ r.id} (n+48) W4);obtain ⟨lW,oP,HP,HW0,HBB,HB,HV,HP1,HP2,as7⟩:=lH jD qM hP hW0 hbb hB hv hp1 hp2 hall;clear jD qM hP hW0 hbb hB hv hp1 hp2 hall
  go_in
  go_wp2_with fail
  rw [←HBB.out,←HW0.out];refine (oP.out _ (Fr.refl _ _)).mono ?_;rintro e w1 ⟨rfl,rfl⟩
  go_wp2_with fail
  go_region_held3 (fun V=>V.cell? ⟨p,1,none⟩=some (.int .i64 (r.id:Int))∧V.cell? ⟨b,0,none⟩=some (.pointer (some ⟨p,0,none⟩))) (first|exact ⟨k1,k0⟩|exact HP.out _ frz) (first
   |(go_at_call 12;refine (oP.out _ frz).mono ?_;rintro e w1 ⟨rfl,rfl⟩)
   |(go_at_call 80;refine (lW.out _ frz).mono ?_;rintro e w2 ⟨rfl,G,a2,i2,f2⟩;have kb:=HB.out _ _ frz f2;have k0:w2.cell? ⟨b,0,none⟩=some (.pointer (some ⟨p,0,none⟩)):=kb.cell 0;have KB:=O kb;clear kb;have A2:=O a2;obtain ⟨j,Fj,bits,nx,mt,h1,-⟩:=a2;have k1:w2.cell? ⟨p,1,none⟩=some (.int .i64 (r.id:Int)):=h1.cell 1;have k3:w2.cell? ⟨p,3,none⟩=some (.int .i64 r.role):=h1.cell 3;have k5:w2.cell? ⟨p,5,none⟩=some (.int .i64 bits):=h1.cell 5;have kf3:=h1.frozen 3;have kf5:=h1.frozen 5;have H1:=O h1;clear h1;have I2:=O i2;have F2:=O f2;clear i2 f2))
  have atl:(r.id:Int)<5:=by omega
  go_wp2_with fail
  go_region_held3 (fun V=>V.cell? ⟨p,1,none⟩=some (.int .i64 (r.id:Int))∧V.cell? ⟨b,0,none⟩=some (.pointer (some ⟨p,0,none⟩))) (first|exact ⟨k1,k0⟩|exact ⟨((H1.out.aU 3 _).dA).cell 1,((KB.out.aF hbp _).dA).cell 0⟩|exact ⟨(H1.out.aU 3 _).cell 1,(KB.out.aF hbp _).cell 0⟩|exact ⟨((H1.out.aU 5 _).dA).cell 1,((KB.out.aF hbp _).dA).cell 0⟩|exact ⟨(H1.out.aU 5 _).cell 1,(KB.out.aF hbp _).cell 0⟩|exact ⟨(((H1.out.aU 3 _).aU 5 _).dA).cell 1,(((KB.out.aF hbp _).aF hbp _).dA).cell 0⟩|exact ⟨(((H1.out.aU 5 _).aU 3 _).dA).cell 1,(((KB.out.aF hbp _).aF hbp _).dA).cell 0⟩) (fail)
  all_goals
   rw [HV.out];obtain ⟨W4,hW4⟩:∃W4,W4=((w2.setCell ⟨p,3,none⟩ (.int .i64 2)).setCell ⟨p,5,none⟩ (.int .i64 ((2 ^ r.id:Nat):Int))).drew:=⟨_,rfl⟩;rw [←hW4];have hb4:Blk W4 b 24 #[.pointer (some ⟨p,0,none⟩)]:=by rw [hW4];exact ((KB.out.aF hbp _).aF hbp _).dA
   have hr4:=as7.out _ w2 W4 frz A2.out F2.out I2.out hW4;obtain ⟨G4,a4,i4,f4⟩:=hr4;have cb4:W4.cell? ⟨b,0,none⟩=some (.pointer (some ⟨p,0,none⟩)):=hb4.cell 0;have c2:W4.cell? ⟨p,2,none⟩=some (.int .i64 (r.n:Int)):=(let ⟨_,_,_,_,_,h1,_⟩:=a4;h1.cell 2);obtain ⟨I4,F4⟩:=aO i4 f4;clear hW4 hb4 i4 f4 k0 k1 k3 k5 kf3 kf5
   by_cases hn1:r.n=1
   ·have u1:((r.n:Int) == 1)=true:=by simp;omega
    have hpl:=HP1.out hn1;have hlead:=ahc a4;clear hn1 a4;obtain ⟨ao7,HPL⟩:=aO hlead hpl;clear hlead hpl
    go_wp2_with fail
    refine ao7.out.mono ?_;rintro e w5 ⟨rfl,t5⟩;have T5:=O (aQ.mk' (RTo.then F4.out I4.out t5) (fF.none_ w5));clear t5
    go_wp2_with fail
    go_ret
    rw [HPL.out];exact T5.out
   ·have u1:((r.n:Int) == 1)=false:=by simp;omega
    have hpl:=HP2.out hn1;have hoth:=xL a4 b cb4;have hrt:RTo w F p {r with js:=⟨r.js.term+1,r.id,r.js.log⟩,role:=2,aY:=2 ^ r.id} (n+48) W4:=⟨G4,a4,I4.out,F4.out⟩;clear hn1 a4;generalize (others r.id r.n).map ({r with js:=⟨r.js.term+1,r.id,r.js.log⟩,role:=2,aY:=2 ^ r.id}:Rs).cu=ms at hoth hpl;obtain ⟨asr,HPL,HRT⟩:=bP hoth hpl hrt;clear hoth hpl hrt
    go_wp2_with fail
    refine asr.out.mono ?_;rintro e w5 m5;have T5:=O (aQ.mk' HRT.out m5);obtain ⟨A5,c5,rfl,-,-⟩:=m5
    go_wp2_with fail
    go_ret
    rw [HPL.out];exact T5.out
end
end
section
def iP (w:World)(F:Nat→Prop)(p:Nat)(x:Rs×List Ms)(X:Int)(n:Nat)(e:Ending)(w' :World):Prop:=
 ∃A c F' G,e= .returned (.tuple #[.slice A x.2.length c,.int .i64 X])∧bF w' G (.slice A x.2.length c) x.2∧RAt w' F' p x.1 n∧(∀i,F' i→F i∨w.heap.size≤i)∧(∀i,G i→w.heap.size≤i)∧(∀i,F' i→¬G i)∧Fr F w w'
theorem iP.mk' {w w1 w' :World}{F:Nat→Prop}{p n:Nat}{r:Rs}{ms:List Ms}{X:Int}{A:Option Addr}{c:Nat}(h:RTo w F p r n w1)(k:fF w1 ms (.returned (.slice A ms.length c)) w'):iP w F p (r,ms) X n (.returned (.tuple #[.slice A ms.length c,.int .i64 X])) w' :=by
 obtain ⟨A',c',F',G,e,h1,h2,h3,h4,h5,h6⟩:=aQ.mk' h k;injection e with e;injection e with e1 e2 e3;subst e1 e3;exact ⟨A,c,F',G,rfl,h1,h2,h3,h4,h5,h6⟩
theorem xW {y:Bool}{w:World}{F:Nat→Prop}{j:Nat}{s:Js}{n:Nat}(h:JG y w F j s n)(t:Int)(e:En)(he:e.ok)(hsz:n+200≤140737488355328)(h0:iB s t e≠0):
  Calls Tryz.prog 86 #[.pointer (some ⟨j,0,none⟩),.int .i64 t,e.v] w fun r w' =>r= .returned (.int .i64 (iB s t e))∧eZ y w F j s n w' :=by
 obtain ⟨d,xs,k,rs,h1,h2,h3,h4,h5⟩:=h;refine (zl h1 h3 t e he oy).mono ?_;rintro r w' ⟨rfl,j2⟩;refine ⟨rfl,?_⟩;rw [if_neg h0,gJ h0] at j2;exact eZ.of j2 h2 h3 h4 h5
theorem ahb {r:Rs}(h:bU r)(e:En)(he:e.ok):bU {r with js:=gT r.js r.js.term e}:=by
 have hl:=h.log.add r.js.term e he;obtain ⟨t1,t2⟩:=yw r.js r.js.term e;have hlen:r.js.log.length≤(gT r.js r.js.term e).log.length:=by
  by_cases h0:iB r.js r.js.term e=0
  ·rw [lq h0];simp
  ·rw [gJ h0];exact Nat.le_refl _
 refine ⟨hl,?_,?_,?_,?_,h.idn,h.five,h.role,Nat.le_trans h.com hlen,h.vts,fun hh i=>Nat.le_trans (h.nxt hh i) hlen,fun hh i=>Nat.le_trans (h.mts hh i) hlen⟩
 ·simp only;rw [t1];exact h.lo
 ·simp only;rw [t1];exact h.hi
 ·simp only;rw [t2];exact h.vlo
 ·simp only;rw [t2];exact h.vhi
section
variable {w w' :World}{F:Nat→Prop}{p:Nat}{r:Rs}{s:Js}{n:Nat}
theorem qm (h:RAt w F p r n)(e:En)(he:e.ok)(hsz:n+200≤140737488355328):Calls Tryz.prog 34 #[.pointer (some ⟨p,0,none⟩),e.v] w (iP w F p (r.propose e) (r.fH e) (n+128)):=by
 have hok:=h.ok;have hok2:=hok.propose e he;have hle:=h.more (m:=n+128) oy;obtain ⟨j,Fj,bits,nx,mt,h1,h2,h3,h4,h5,h6,h7,h8⟩:=h;have hT:=fun W (hf:Fr No w W)=>iq (p:=p) (s:=r.js) (n:=n) ⟨j,Fj,(h1.fr hf id).cell 0,h3.ak hf,h5⟩;have c3:w.cell? ⟨p,3,none⟩=some (.int .i64 r.role):=h1.cell 3;have hpl:=h1.lt;have hP:∀W,Fr No w W→W.cell? ⟨p,0,none⟩=some (.pointer (some ⟨j,0,none⟩))∧W.cell? ⟨p,3,none⟩=some (.int .i64 r.role):=fun W hW=>⟨(h1.fr hW id).cell 0,(h1.fr hW id).cell 3⟩;have hstill:=fun W (hf:Fr No w W)=>hle.still hf
 by_cases hr:r.role=3
 ·have t1:(r.role == 3)=true:=by simpa using hr
  have t2:(r.role != 3)=false:=by simpa using hr
  have hX:r.fH e=iB r.js r.js.term e:=by unfold Rs.fH;rw [if_neg (by simpa using hr)]
  have hfj:=fun i (hi:Fj i)=>h6 i (h4 i hi);have uR:=fun V W (hf:Fr No w V) (hj:Fr Fj V W)=>((((h1.fr hf id).fr hj h5).cell 0):W.cell? ⟨p,0,none⟩=some (.pointer (some ⟨j,0,none⟩)))
  by_cases h0:iB r.js r.js.term e=0
  ·have hpr:r.propose e=(r.proposed e,(r.proposed e).gF):=by unfold Rs.propose;rw [hX,if_pos h0]
   have hA:=fun W (hf:Fr No w W)=>uH (h3.ak hf) r.js.term e he hsz;have hjr:=fun V W (hf:Fr No w V) (hj:eZ true V Fj j (gT r.js r.js.term e) (n+128) W)=>(RTo.after hf (RAt.jrn (r:=r) (s' :=gT r.js r.js.term e) (h1.fr hf id) h2 h4 h5 (fun i hi=>nll (h6 i hi) hf.size) h7 hj (ahb h8 e he)):RTo w F p {r with js:=gT r.js r.js.term e} (n+128) W);have hfin:∀V W,Fr No w V→eZ false V Fj j (gT r.js r.js.term e) (n+128) W→∃G,JG false W G j (gT r.js r.js.term e) (n+128)∧∀W',eZ true W G j (gT r.js r.js.term e) (n+128) W'→RTo w F p {r with js:=gT r.js r.js.term e} (n+128) W' :=fun V W hf hj=>(let ⟨G,q1,q2,q3⟩:=hj;⟨G,q1,fun W' k=>hjr V W' hf (eZ.then q3 q2 k)⟩);have hr2:({r with js:=gT r.js r.js.term e}:Rs).role=3:=hr;rw [hpr,hX];rw [h0] at hA ⊢;unfold Rs.proposed;generalize hr1:({r with js:=gT r.js r.js.term e}:Rs)=r1 at*;generalize gT r.js r.js.term e=S at*;generalize r.js.term=t at*;obtain ⟨k0,tick,te,ce,ot,ep,fr,un,nn⟩:=e;unfold En.v at*;simp only at*;obtain ⟨W0,hW0⟩:∃W0,W0=w.alloc (.cells #[.int .i64 k0,.int .i64 tick,.int .i64 te,.int .i64 ce,.int .i64 ot,.int .i64 ep,.int .i64 fr,.int .i64 un,.int .i64 nn] dR):=⟨_,rfl⟩;have hf0:Fr No w W0:=by rw [hW0];exact aj _ _
   obtain ⟨g,hg⟩:∃g,g=w.heap.size:=⟨_,rfl⟩;have hb:Blk W0 g dR #[.int .i64 k0,.int .i64 tick,.int .i64 te,.int .i64 ce,.int .i64 ot,.int .i64 ep,.int .i64 fr,.int .i64 un,.int .i64 nn]:=by rw [hW0,hg];exact Blk.new _ _ _
   have hgj:¬Fj g:=fun hh=>by have:=hfj g hh;omega
   have hB2:=fun V W (hf:Fr No W0 V) (hj:Fr Fj V W)=>(hb.fr hf id).fr hj hgj;have hE0:=fun V (hf:Fr No W0 V)=>And.intro (hP _ (hf0.ah hf)).1 (aB (hb.fr hf id));obtain ⟨p0,p3⟩:=hP _ hf0;clear h8 hjr h1 h2 h3 h4 h5 h6 h7 hok hok2 hle hpr hX hr h0 hb hfj hgj hstill hr1;obtain ⟨HT,HP,HA,bS,abf,HE0,HB2,HW0,HG,HF0⟩:=lH hT hP hA hfin uR hE0 hB2 hW0 hg hf0;clear hT hP hA hfin uR hE0 hB2 hW0 hg hf0
   go_in
   go_wp2_with fail
   rw [←HG.out,←HW0.out]
   go_wp2_with fail
   go_region_held3 (fun V=>V.cell? ⟨p,0,none⟩=some (.pointer (some ⟨j,0,none⟩))∧V.cell? ⟨g,0,none⟩=some (.int .i64 k0)∧V.cell? ⟨g,1,none⟩=some (.int .i64 tick)∧V.cell? ⟨g,2,none⟩=some (.int .i64 te)∧V.cell? ⟨g,3,none⟩=some (.int .i64 ce)∧V.cell? ⟨g,4,none⟩=some (.int .i64 ot)∧V.cell? ⟨g,5,none⟩=some (.int .i64 ep)∧V.cell? ⟨g,6,none⟩=some (.int .i64 fr)∧V.cell? ⟨g,7,none⟩=some (.int .i64 un)∧V.cell? ⟨g,8,none⟩=some (.int .i64 nn)) (first|exact ⟨p0,e0,e1,e2,e3,e4,e5,e6,e7,e8⟩|exact HE0.out _ frz) (first
    |(go_at_call 12;refine (HT.out _ (HF0.out.ah frz)).mono ?_;rintro e w1 ⟨rfl,rfl⟩)
    |(go_at_call 86;refine (HA.out _ (HF0.out.ah frz)).mono ?_;rintro e w2 ⟨rfl,j2⟩;obtain ⟨e0,e1,e2,e3,e4,e5,e6,e7,e8⟩:=aB (HB2.out _ _ frz (let ⟨_,_,_,g⟩:=j2;g));have p0:=abf.out _ _ (HF0.out.ah frz) (let ⟨_,_,_,g⟩:=j2;g);have J2:=O (bS.out _ _ (HF0.out.ah frz) j2);clear j2))
   obtain ⟨G2,a2,k2⟩:=J2.out;clear J2 e0 e1 e2 e3 e4 e5 e6 e7 e8;obtain ⟨A2,K2⟩:=aO a2 k2;clear a2 k2
   go_wp2_with fail
   refine (zB A2.out).mono ?_;rintro e w3 ⟨rfl,j3⟩;obtain ⟨G3,a3,i3,f3⟩:=K2.out _ j3;clear j3;obtain ⟨A3,I3,F3⟩:=bP a3 i3 f3;clear a3 i3 f3
   go_wp2_with fail
   refine (vR A3.out hr2).mono ?_;rintro e w4 ⟨rfl,t4⟩;obtain ⟨G4,a4,i4,f4⟩:=RTo.then F3.out I3.out t4;have ho:=jX a4 (show r1.advance.role=3 from hr2);have hrt:RTo w F p r1.advance (n+128) w4:=⟨G4,a4,i4,f4⟩
   change Calls _ _ _ _ (fF w4 r1.advance.gF) at ho
   generalize r1.advance.gF=ms at*;clear t4 a4 i4 f4;obtain ⟨HO,HRT⟩:=aO ho hrt;clear ho hrt
   go_wp2_with fail
   refine HO.out.mono ?_;rintro e w5 m5;have M:=O m5;obtain ⟨A5,c5,rfl,-,-⟩:=m5
   go_wp2_with fail
   go_ret2
   exact iP.mk' HRT.out M.out
  ·have hpr:r.propose e=(r,[]):=by unfold Rs.propose;rw [hX,if_neg h0]
   have hA:=fun W (hf:Fr No w W)=>xW (h3.ak hf) r.js.term e he hsz h0;have hfin:=fun V W (hf:Fr No w V) (hj:eZ true V Fj j r.js n W)=>(RTo.more (RTo.after hf (RAt.jrn (r:=r) (s' :=r.js) (h1.fr hf id) h2 h4 h5 (fun i hi=>nll (h6 i hi) hf.size) h7 hj hok)) oy:RTo w F p r (n+128) W);rw [hpr,hX];generalize iB r.js r.js.term e=X at*;generalize r.js.term=t at*;obtain ⟨k0,tick,te,ce,ot,ep,fr,un,nn⟩:=e;unfold En.v at*;simp only at*;obtain ⟨W0,hW0⟩:∃W0,W0=w.alloc (.cells #[.int .i64 k0,.int .i64 tick,.int .i64 te,.int .i64 ce,.int .i64 ot,.int .i64 ep,.int .i64 fr,.int .i64 un,.int .i64 nn] dR):=⟨_,rfl⟩;have hf0:Fr No w W0:=by rw [hW0];exact aj _ _
   obtain ⟨g,hg⟩:∃g,g=w.heap.size:=⟨_,rfl⟩;have hb:Blk W0 g dR #[.int .i64 k0,.int .i64 tick,.int .i64 te,.int .i64 ce,.int .i64 ot,.int .i64 ep,.int .i64 fr,.int .i64 un,.int .i64 nn]:=by rw [hW0,hg];exact Blk.new _ _ _
   have hgj:¬Fj g:=fun hh=>by have:=hfj g hh;omega
   have hB2:=fun V W (hf:Fr No W0 V) (hj:Fr Fj V W)=>(hb.fr hf id).fr hj hgj;have hE0:=fun V (hf:Fr No W0 V)=>And.intro (hP _ (hf0.ah hf)).1 (aB (hb.fr hf id));obtain ⟨p0,p3⟩:=hP _ hf0;have x1:(X == 0)=false:=by simpa using h0
   have x2:(X != 0)=true:=by simpa using h0
   clear h8 h1 h2 h3 h4 h5 h6 h7 hok hok2 hle hpr hX hr h0 hb hfj hgj hstill;obtain ⟨HT,HP,HA,bS,abf,HE0,HB2,HW0,HG,HF0⟩:=lH hT hP hA hfin uR hE0 hB2 hW0 hg hf0;clear hT hP hA hfin uR hE0 hB2 hW0 hg hf0
   go_in
   go_wp2_with fail
   rw [←HG.out,←HW0.out]
   go_wp2_with fail
   go_region_held3 (fun V=>V.cell? ⟨p,0,none⟩=some (.pointer (some ⟨j,0,none⟩))∧V.cell? ⟨g,0,none⟩=some (.int .i64 k0)∧V.cell? ⟨g,1,none⟩=some (.int .i64 tick)∧V.cell? ⟨g,2,none⟩=some (.int .i64 te)∧V.cell? ⟨g,3,none⟩=some (.int .i64 ce)∧V.cell? ⟨g,4,none⟩=some (.int .i64 ot)∧V.cell? ⟨g,5,none⟩=some (.int .i64 ep)∧V.cell? ⟨g,6,none⟩=some (.int .i64 fr)∧V.cell? ⟨g,7,none⟩=some (.int .i64 un)∧V.cell? ⟨g,8,none⟩=some (.int .i64 nn)) (first|exact ⟨p0,e0,e1,e2,e3,e4,e5,e6,e7,e8⟩|exact HE0.out _ frz) (first
    |(go_at_call 12;refine (HT.out _ (HF0.out.ah frz)).mono ?_;rintro e w1 ⟨rfl,rfl⟩)
    |(go_at_call 86;refine (HA.out _ (HF0.out.ah frz)).mono ?_;rintro e w2 ⟨rfl,j2⟩;obtain ⟨e0,e1,e2,e3,e4,e5,e6,e7,e8⟩:=aB (HB2.out _ _ frz (let ⟨_,_,_,g⟩:=j2;g));have p0:=abf.out _ _ (HF0.out.ah frz) (let ⟨_,_,_,g⟩:=j2;g);have J2:=O (bS.out _ _ (HF0.out.ah frz) j2);clear j2))
   clear e0 e1 e2 e3 e4 e5 e6 e7 e8
   go_wp2_with fail
   go_ret2
   exact iP.mk' J2.out (fF.none_ _)
 ·have t1:(r.role == 3)=false:=by simpa using hr
  have t2:(r.role != 3)=true:=by simpa using hr
  have hX:r.fH e=4:=by unfold Rs.fH;rw [if_pos hr]
  have hpr:r.propose e=(r,[]):=by unfold Rs.propose;rw [hX,if_neg dcd]
  rw [hpr,hX];obtain ⟨k0,tick,te,ce,ot,ep,fr,un,nn⟩:=e;unfold En.v at*;simp only at*;obtain ⟨p0,p3⟩:=hP _ (aj w (.cells #[.int .i64 k0,.int .i64 tick,.int .i64 te,.int .i64 ce,.int .i64 ot,.int .i64 ep,.int .i64 fr,.int .i64 un,.int .i64 nn] dR));have S:=O (hstill _ (aj w (.cells #[.int .i64 k0,.int .i64 tick,.int .i64 te,.int .i64 ce,.int .i64 ot,.int .i64 ep,.int .i64 fr,.int .i64 un,.int .i64 nn] dR)));clear h8 hT hP hstill h1 h2 h3 h4 h5 h6 h7 hok hok2 hle hpr hX hr
  go_in
  go_wp2_with fail
  go_ret2
  exact iP.mk' S.out (fF.none_ _)
end
end
section
theorem Ent.at_ {w:World}{G:Nat→Prop}{A:Option Addr}{n c i:Nat}{es:List Lg}(h:Ent w G (.slice A n c) es)(hi:i<es.length):
  ∃b off x,A=some ⟨b,off,none⟩∧es[i]? =some x∧∀W,Fr No w W→(W.cell? ⟨b,off+i*10,none⟩=some (.int .i64 x.term)∧W.cell? ⟨b,off+i*10+1,none⟩=some (.int .i64 x.e.kind)∧W.cell? ⟨b,off+i*10+2,none⟩=some (.int .i64 x.e.tick)∧W.cell? ⟨b,off+i*10+3,none⟩=some (.int .i64 x.e.aS)∧W.cell? ⟨b,off+i*10+4,none⟩=some (.int .i64 x.e.cell)∧W.cell? ⟨b,off+i*10+5,none⟩=some (.int .i64 x.e.other)∧W.cell? ⟨b,off+i*10+6,none⟩=some (.int .i64 x.e.epoch)∧W.cell? ⟨b,off+i*10+7,none⟩=some (.int .i64 x.e.from_)∧W.cell? ⟨b,off+i*10+8,none⟩=some (.int .i64 x.e.bA)∧W.cell? ⟨b,off+i*10+9,none⟩=some (.int .i64 x.e.n)):=by
 obtain ⟨A',c',h1,h2,h3,h4,h5⟩:=h;injection h1 with e1 e2 e3;subst e1
 rcases h5 with rfl|⟨b,off,rfl,hb,hlt,hc⟩
 ·simp at hi
 obtain ⟨x,hx⟩:∃x,es[i]? =some x:=⟨_,List.getElem?_eq_getElem hi⟩;refine ⟨b,off,x,rfl,hx,fun W hW=> ?_⟩;have hl:=bg es;have e:=fun j (hj:j<10)=>((hW.cell (p:=⟨b,off+(i*10+j),none⟩) hlt id).trans (by rw [hc (i*10+j) oy,←List.getElem?_eq_getElem,dh es i j x hx hj]):W.cell? ⟨b,off+(i*10+j),none⟩=x.cells[j]?);exact ⟨e 0 oy,e 1 oy,e 2 oy,e 3 oy,e 4 oy,e 5 oy,e 6 oy,e 7 oy,e 8 oy,e 9 oy⟩
section
variable {w w' :World}{F G:Nat→Prop}{p:Nat}{r:Rs}{s:Js}{n:Nat}
theorem ac2 (m:Ms)(A:Option Addr)(c:Nat)(hE:Ent w G (.slice A m.es.length c) m.es)(h0:0≤m.index)(h1:m.index≤4096)(h2:0≤m.prev)(hlen:m.es.length≤1000000):Calls Tryz.prog 143 #[m.v (.slice A m.es.length c)] w fun e w' =>e= .returned (.bool (eu m))∧Fr No w w' :=by
 have hM:=hE.rd.2.2.2.1;have hM2:=hE.rd.2.2.1;unfold maxLen at hM;have hat:=fun i hi=>hE.at_ (i:=i) hi;have hsh:=fun (e:En) V=>pR e V;have hP:∀b1 b2 b3:Bool,((m.prev == 0) == (m.index == 0))=b1→decide (m.index+m.es.length≤4096)=b2→chainB m.term (max 1 m.prev) m.es=b3→eu m=(b1 && (b2 && b3)):=fun b1 b2 b3 q1 q2 q3=>by unfold eu;rw [q1,q2,q3]
 obtain ⟨Y,hY⟩:∃Y,Y=eu m:=⟨_,rfl⟩;rw [←hY] at hP ⊢;obtain ⟨kd,mf,mto,mt,ix,pv,cm,ok,es⟩:=m;simp only at*;clear hE hY;obtain ⟨W0,hW0⟩:∃W0,W0=w.alloc (.cells #[.int .i64 kd,.int .i64 mf,.int .i64 mto,.int .i64 mt,.int .i64 ix,.int .i64 pv,.int .i64 cm,.bool ok,.slice A es.length c] TMs):=⟨_,rfl⟩;have hf0:Fr No w W0:=by rw [hW0];exact aj _ _
 obtain ⟨g,hg⟩:∃g,g=w.heap.size:=⟨_,rfl⟩;have hb:Blk W0 g TMs #[.int .i64 kd,.int .i64 mf,.int .i64 mto,.int .i64 mt,.int .i64 ix,.int .i64 pv,.int .i64 cm,.bool ok,.slice A es.length c]:=by rw [hW0,hg];exact Blk.new _ _ _
 have hC:∀W,Fr No W0 W→W.cell? ⟨g,3,none⟩=some (.int .i64 mt)∧W.cell? ⟨g,8,none⟩=some (.slice A es.length c):=fun W hW=>⟨(hb.fr hW id).cell 3,(hb.fr hW id).cell 8⟩;have hl0:(0:Int)≤(es.length:Int):=by omega
 by_cases hq:(pv=0↔ix=0)
 ·have q1:((pv == 0) == (ix == 0))=true:=by
   by_cases u:pv=0
   ·have v:=hq.1 u
    rw [u,v]
    rfl
   ·have v:¬ix=0:=fun h=>u (hq.2 h)
    have u1:(pv == 0)=false:=by simpa using u
    have v1:(ix == 0)=false:=by simpa using v
    rw [u1,v1]
    rfl
  have q2:(pv == 0)=(ix == 0):=by simpa using q1
  clear hq
  by_cases hl:4096<ix+(es.length:Int)
  ·have hY:=hP true false _ q1 (by simp;omega) rfl
   rw [hY,Bool.false_and,Bool.true_and];clear hat hsh hP hC hb hY q1;obtain ⟨HF0,HW0⟩:=aO hf0 hW0;clear hf0 hW0
   go_in
   go_wp2_with fail
   rw [←HW0.out]
   go_ret
   exact ⟨rfl,HF0.out⟩
  ·have hY:=hP true true _ q1 (by simp;omega) rfl
   have hl2:ix+(es.length:Int)≤4096:=by omega
   have hl3:decide (4096<ix+(es.length:Int))=false:=by simp;omega
   rw [hY,Bool.true_and,Bool.true_and];clear hP hY q1;obtain ⟨Z,hZ⟩:∃Z,Z=chainB mt (max 1 pv) es:=⟨_,rfl⟩;rw [←hZ];clear hb;obtain ⟨HF0,HW0,HC,HSH,HAT,HG⟩:=lG hf0 hW0 hC hsh hat hg;clear hf0 hW0 hC hsh hat hg
   go_in
   go_wp2_with fail
   all_goals
    rw [←HG.out,←HW0.out];have c8:=(HC.out W0 (Fr.refl _ _)).2
    go_loopw [3,28] (fun low i wr=>∃(k:Nat) (L:Int),k≤es.length∧i= .int .i64 k∧low= .int .i64 L∧Z=chainB mt L (es.drop k)∧Fr No W0 wr) (fun _ i _=>es.length-(intOf i).toNat)
    case atStart=>exact ⟨0,_,Nat.zero_le _,rfl,rfl,by rw [hZ,List.drop_zero];congr 1;omega,Fr.refl _ _⟩
    case round=>
     obtain ⟨k,L,hk,rfl,rfl,hch,hf⟩:=hrel;have hcc:=(HC.out _ hf).1;have HF:=O hf;clear hf
     by_cases hlt:k<es.length
     ·have hlt2:(k:Int)<(es.length:Int):=by omega
      obtain ⟨b,off,x,rfl,hx,hcs⟩:=HAT.out k hlt;have hdrop:es.drop k=x :: es.drop (k+1):=by
       rw [List.drop_eq_getElem_cons hlt]
       congr 1
       rw [List.getElem?_eq_getElem hlt] at hx;injection hx
      rw [hdrop] at hch;simp only [chainB] at hch;obtain ⟨c0,c1,c2,c3,c4,c5,c6,c7,c8',c9⟩:=hcs _ (HF0.out.ah HF.out);have hS:=HSH.out x.e;obtain ⟨t,⟨k0,tick,te,ce,ot,ep,fr,un,nn⟩⟩:=x;unfold En.v at hS;simp only at*;generalize dW ⟨k0,tick,te,ce,ot,ep,fr,un,nn⟩=sb at*;obtain ⟨W1,hW1⟩:∃W1,W1=wr.alloc (.cells #[.int .i64 t,.int .i64 k0,.int .i64 tick,.int .i64 te,.int .i64 ce,.int .i64 ot,.int .i64 ep,.int .i64 fr,.int .i64 un,.int .i64 nn] TLg):=⟨_,rfl⟩;obtain ⟨g1,hg1⟩:∃g,g=wr.heap.size:=⟨_,rfl⟩;have hf1:Fr No W0 W1:=by rw [hW1];exact HF.out.alloc _
      have hb1:Blk W1 g1 TLg #[.int .i64 t,.int .i64 k0,.int .i64 tick,.int .i64 te,.int .i64 ce,.int .i64 ot,.int .i64 ep,.int .i64 fr,.int .i64 un,.int .i64 nn]:=by rw [hW1,hg1];exact Blk.new _ _ _
      have hlk:∀V,Fr No W1 V→(V.cell? ⟨g1,0,none⟩=some (.int .i64 t)∧V.cell? ⟨g1,1,none⟩=some (.int .i64 k0)∧V.cell? ⟨g1,2,none⟩=some (.int .i64 tick)∧V.cell? ⟨g1,3,none⟩=some (.int .i64 te)∧V.cell? ⟨g1,4,none⟩=some (.int .i64 ce)∧V.cell? ⟨g1,5,none⟩=some (.int .i64 ot)∧V.cell? ⟨g1,6,none⟩=some (.int .i64 ep)∧V.cell? ⟨g1,7,none⟩=some (.int .i64 fr)∧V.cell? ⟨g1,8,none⟩=some (.int .i64 un)∧V.cell? ⟨g1,9,none⟩=some (.int .i64 nn)):=fun V hV=>let q:=hb1.fr hV id;⟨q.cell 0,q.cell 1,q.cell 2,q.cell 3,q.cell 4,q.cell 5,q.cell 6,q.cell 7,q.cell 8,q.cell 9⟩;have hmt:=fun V (hV:Fr No W1 V)=>(HC.out V (hf1.ah hV)).1;clear hx hdrop hcs c8 hcc hb1;obtain ⟨HS,HLK,HW1,HG1,HF1,HCH,HMT⟩:=nC hS hlk hW1 hg1 hf1 hch hmt;clear hS hlk hW1 hg1 hf1 hch hmt
      go_wp2_with fail
      rw [←HG1.out,←HW1.out];refine (HS.out _).mono ?_;rintro e w5 ⟨rfl,f5⟩;obtain ⟨c0,c1,c2,c3,c4,c5,c6,c7,c8',c9⟩:=HLK.out _ f5;have hcc:=HMT.out _ f5;have F5:=O (HF1.out.ah f5);clear f5
      cases sb
      ·have hch:=HCH.out
       rw [Bool.false_and] at hch;have HCH:=O hch;clear hch
       go_wp2_with fail
       go_ret
       exact ⟨au HCH.out.symm,HF0.out.ah F5.out⟩
      ·by_cases v1:t<L
       ·have hch:=HCH.out
        rw [show decide (L≤t)=false from by simp;omega,Bool.true_and,Bool.false_and] at hch;have v2:decide (t<L)=true:=by simpa using v1
        have HCH:=O hch;clear hch
        go_wp2_with fail
        go_ret
        exact ⟨au HCH.out.symm,HF0.out.ah F5.out⟩
       ·have v2:decide (t<L)=false:=by simpa using v1
        by_cases v3:mt<t
        ·have hch:=HCH.out
         rw [show decide (t≤mt)=false from by simp;omega,Bool.false_and,Bool.and_false,Bool.and_false] at hch;have v4:decide (mt<t)=true:=by simpa using v3
         have HCH:=O hch;clear hch
         go_wp2_with fail
         go_ret
         exact ⟨au HCH.out.symm,HF0.out.ah F5.out⟩
        ·have v4:decide (mt<t)=false:=by simpa using v3
         have hch:=HCH.out;rw [show decide (L≤t)=true from by simp;omega,show decide (t≤mt)=true from by simp;omega,Bool.true_and,Bool.true_and,Bool.true_and] at hch;have HCH:=O hch;clear hch
         go_wp2_with fail
         go_roundw
         case rel=>exact ⟨k+1,t,by omega,by go_num,rfl,HCH.out,F5.out⟩
         case measure=>simp [intOf];omega
     ·obtain rfl:k=es.length:=by omega
      have t1:decide (es.length<es.length)=false:=by simp
      rw [List.drop_length] at hch;simp only [chainB] at hch;have HCH:=O hch;clear hch
      go_wp2_with fail
      go_ret
      exact ⟨au HCH.out.symm,HF0.out.ah HF.out⟩
 ·have q1:((pv == 0) == (ix == 0))=false:=by
   by_cases u:pv=0<;>by_cases v:ix=0<;>simp_all
  have hY:=hP false _ _ q1 rfl rfl;rw [hY,Bool.false_and];have q2:((pv == 0) != (ix == 0))=true:=by rw [bne,q1];rfl
  clear hat hsh hP hC hb hq hY;obtain ⟨HF0,HW0⟩:=aO hf0 hW0;clear hf0 hW0
  go_in
  go_wp2_with fail
  rw [←HW0.out]
  go_ret
  exact ⟨rfl,HF0.out⟩
end
end
section
theorem RTo.am4 {w W w5:World}{F:Nat→Prop}{p m g:Nat}{r:Rs}(hf:Fr No w W)(h:RTo W F p r m w5)(hg:w.heap.size≤g)(hgW:g<W.heap.size)(hgF:¬F g)(o:Nat)(u:Value):RTo w F p r m (w5.setCell ⟨g,o,none⟩ u):=by
 obtain ⟨F',h1,h2,h3⟩:=h;have hne:∀i,F' i→i≠g:=fun i hi e=>by
  rcases h2 i hi with h|h
  ·exact hgF (e▸h)
  ·omega
 have hs:=hf.size;refine ⟨F',h1.fr (dx w5 ⟨g,o,none⟩ u) (fun i hi=>hne i hi),fun i hi=>(h2 i hi).imp id (Nat.le_trans hs),?_⟩;exact ((hf.mono (G:=F) fun _ hi=>hi.elim).trans h3 fun i hi=> .inl hi).setCell (p:=⟨g,o,none⟩) (.inr hg) u
theorem RAt.far {w w' :World}{F:Nat→Prop}{p n g:Nat}{r:Rs}{t:TypeId}{cs:Array Value}(h:RAt w F p r n)(hb:Blk w g t cs)(hg:¬F g){r' :Rs}{m:Nat}(hr:RTo w F p r' m w'):Blk w' g t cs:=by
 obtain ⟨F',h1,h2,h3⟩:=hr;exact hb.fr h3 hg
section
variable {w w' :World}{F G:Nat→Prop}{p:Nat}{r:Rs}{s:Js}{n:Nat}
set_option maxHeartbeats 8000000 in
theorem vP (h:RAt w F p r n)(m:Ms)(v:Value)(hm:bH r m)(hsz:n+200≤140737488355328):Calls Tryz.prog 101 #[.pointer (some ⟨p,0,none⟩),m.v v] w (aQ w F p (r.dK m) (n+48)):=by
 have hok:=h.ok;have hok2:=hok.dK hm;have ake:=hm.f0;have akd:=hm.f1;have h5n:=hok.five;have hle:=h.more (m:=n+48) oy;have hlen:=hok.log.few;have hLT:=fun W (hf:Fr No w W)=>sN (h.ak hf).rj hlen;have hV:=fun W (hf:Fr No w W)=>yS (h.ak hf).rj;have hL:=fun W (hf:Fr No w W)=>qo (h.ak hf).rj;have hT:=fun W (hf:Fr No w W)=>iq (h.ak hf).rj;have hM:=fun W (hf:Fr No w W)=>mP (h.ak hf) 2 m.from_;have hstill:=fun W (hf:Fr No w W)=>hle.still hf;have hFl:=h.lt;have hno:r.grants m=false→r.dK m=(r,[⟨2,r.id,m.from_,r.js.term,0,0,0,false,[]⟩]):=fun hg=>by unfold Rs.dK;rw [hg];rfl
 have hyes:r.grants m=true→r.dK m=({r with js:=⟨m.term,m.from_,r.js.log⟩},[⟨2,r.id,m.from_,r.js.term,0,0,0,true,[]⟩]):=fun hg=>by unfold Rs.dK;rw [hg];rfl
 have hgr:r.grants m=(decide (m.term=r.js.term) && (decide (r.js.cu= -1∨r.js.cu=m.from_) && decide (lastT r.js.log<m.prev∨m.prev=lastT r.js.log∧(r.js.log.length:Int)≤m.index))):=by
  unfold Rs.grants;simp only [Bool.decide_and]
 have jD:r.grants m=true→∀W (hf:Fr No w W),Calls Tryz.prog 80 #[.pointer (some ⟨p,0,none⟩),.int .i64 m.term,.int .i64 m.from_] W fun e w' =>e= .returned (.tuple #[])∧RTo W F p {r with js:=⟨m.term,m.from_,r.js.log⟩} (n+48) w' :=fun hg W hf=>by
  have hg2:=hg;unfold Rs.grants at hg2;simp only [decide_eq_true_eq] at hg2;obtain ⟨sx,sj⟩:=fG r.js m.term m.from_ (by have:=hm.t0;omega) hm.t1 oy oy (.inr ⟨hg2.1.symm,hg2.2.1⟩);rw [hyes hg] at hok2;have:=nL (h.ak hf) m.term m.from_ (by rw [sj];exact hok2) hsz;rw [sj] at this;exact this.mono fun e w' ⟨e1,e2⟩=>⟨e1,e2⟩
 generalize r.grants m=GR at*;generalize r.dK m=OV at*;obtain ⟨kd,mf,mto,mt,ix,pv,cm,ok,es⟩:=m;simp only at*;generalize r.js.term=mt2 at*;generalize r.js.cu=vo at*;generalize lastT r.js.log=lt at*;generalize hll:r.js.log.length=ll at*;generalize (r.id:Int)=id at*;obtain ⟨W0,hW0⟩:∃W0,W0=w.alloc (.cells #[.int .i64 kd,.int .i64 mf,.int .i64 mto,.int .i64 mt,.int .i64 ix,.int .i64 pv,.int .i64 cm,.bool ok,v] TMs):=⟨_,rfl⟩;have hf0:Fr No w W0:=by rw [hW0];exact aj _ _
 obtain ⟨g,hg⟩:∃g,g=w.heap.size:=⟨_,rfl⟩;have hb:Blk W0 g TMs #[.int .i64 kd,.int .i64 mf,.int .i64 mto,.int .i64 mt,.int .i64 ix,.int .i64 pv,.int .i64 cm,.bool ok,v]:=by rw [hW0,hg];exact Blk.new _ _ _
 have hgF:¬F g:=fun hh=>by have:=hFl g hh;omega
 have hC:=fun W (hf:Fr No W0 W)=>aL (m:=⟨kd,mf,mto,mt,ix,pv,cm,ok,es⟩) (hb.fr hf (fun h=>h));have hC2:=fun V W (hf:Fr No W0 V) (hr:RTo w F p {r with js:=⟨mt,mf,r.js.log⟩} (n+48) W)=>True;simp only at hC;obtain ⟨FB,hFB⟩:∃b,b=decide (vo= -1∨vo=mf):=⟨_,rfl⟩;obtain ⟨GB,hGB⟩:∃b,b=decide (lt<pv∨pv=lt∧(ll:Int)≤ix):=⟨_,rfl⟩;rw [←hFB,←hGB] at hgr;clear h hok hok2 hm hle hb hlen hsz hC2 hll;obtain ⟨HFL,HLT,HV,HL,HT,HM,bZ,HNO,abd,HGR,lW,HW0⟩:=gY hFl hLT hV hL hT hM hstill hno hyes hgr jD hW0;obtain ⟨HF0,HG,HC,HFB,HGB⟩:=jr hf0 hg hC hFB hGB;clear hFl hLT hV hL hT hM hstill hno hyes hgr jD hW0 hf0 hg hC hFB hGB
 go_in
 go_wp2_with fail
 rw [←HW0.out];refine (HLT.out _ HF0.out).mono ?_;rintro e w1 ⟨rfl,f1⟩;rw [←HG.out];obtain ⟨F1,G1⟩:=aO (HF0.out.ah f1) f1;clear f1;obtain ⟨c0,c1,c2,c3,c4,c5,c6,c7,c8⟩:=HC.out _ G1.out
 go_upto_region 2 with fail
 go_cut [6] (fun x wx=>x= .bool FB∧∃k,wx=w1.drewN k)
 case first=>
  go_wp2_with fail
  by_cases q1:vo= -1
  ·have u1:(vo == -1)=true:=by simpa using q1
   have hb:FB=true:=by rw [HFB.out];exact decide_eq_true (.inl q1)
   go_quiet ((go_at_call 13;exact aI (HV.out _ (F1.out.drewN _))))
   go_wp2_with fail
   go_meet
   exact ⟨by rw [hb],_,rfl⟩
  ·have u1:(vo == -1)=false:=by simpa using q1
   have hb:FB=(vo == mf):=by rw [HFB.out];by_cases q2:vo=mf<;>simp [q1,q2]
   go_quiet ((go_at_call 13;exact aI (HV.out _ (F1.out.drewN _))))
   go_wp2_with fail
   go_meet
   exact ⟨by rw [hb],_,rfl⟩
 case rest=>
  obtain ⟨rfl,k,rfl⟩:=hcut;replace F1:=O (F1.out.drewN k);replace G1:=O (G1.out.drewN k);generalize w1.drewN k=w1 at*;clear c0 c1 c2 c3 c4 c5 c6 c7 c8;obtain ⟨c0,c1,c2,c3,c4,c5,c6,c7,c8⟩:=HC.out _ G1.out
  go_upto_region 3 with fail
  go_cut [7] (fun x wx=>x= .bool GB∧∃k,wx=w1.drewN k)
  case first=>
   go_wp2_with fail
   by_cases q1:lt<pv
   ·have u1:decide (lt<pv)=true:=by simpa using q1
    have hb:GB=true:=by rw [HGB.out];exact decide_eq_true (.inl q1)
    go_quiet ((go_at_call 56;exact aI (HL.out _ (F1.out.drewN _))))
    go_wp2_with fail
    go_meet
    exact ⟨by rw [hb],_,rfl⟩
   ·have u1:decide (lt<pv)=false:=by simpa using q1
    by_cases q2:pv=lt
    ·have u2:(pv == lt)=true:=by simpa using q2
     have hb:GB=decide ((ll:Int)≤ix):=by rw [HGB.out];exact decide_eq_decide.2 ⟨fun hh=>by omega,fun hh=> .inr ⟨q2,hh⟩⟩
     clear q2
     go_quiet ((go_at_call 56;exact aI (HL.out _ (F1.out.drewN _))))
     go_wp2_with fail
     go_meet
     exact ⟨by rw [hb],_,rfl⟩
    ·have u2:(pv == lt)=false:=by simpa using q2
     have hb:GB=false:=by rw [HGB.out];exact decide_eq_false (fun hh=>by rcases hh with hh|hh;exact q1 hh;exact q2 hh.1)
     clear q2
     go_quiet ((go_at_call 56;exact aI (HL.out _ (F1.out.drewN _))))
     go_wp2_with fail
     go_meet
     exact ⟨by rw [hb],_,rfl⟩
  case rest=>
   obtain ⟨rfl,k,rfl⟩:=hcut;replace F1:=O (F1.out.drewN k);replace G1:=O (G1.out.drewN k);generalize w1.drewN k=w1 at*;clear c0 c1 c2 c3 c4 c5 c6 c7 c8;obtain ⟨c0,c1,c2,c3,c4,c5,c6,c7,c8⟩:=HC.out _ G1.out
   go_wp2_with fail
   refine (HM.out _ F1.out).mono ?_;rintro e w4 ⟨rfl,f4⟩;obtain ⟨F4,G4⟩:=aO (F1.out.ah f4) (G1.out.ah f4);clear f4 c0 c1 c2 c3 c4 c5 c6 c7 c8;obtain ⟨W5,hW5⟩:∃W5,W5=w4.alloc (.cells #[.int .i64 2,.int .i64 id,.int .i64 mf,.int .i64 mt2,.int .i64 0,.int .i64 0,.int .i64 0,.bool false,.slice none 0 0] TMs):=⟨_,rfl⟩;obtain ⟨g8,hg8⟩:∃g,g=w4.heap.size:=⟨_,rfl⟩;have hF5:Fr No w W5:=by rw [hW5];exact F4.out.alloc _
   have hG5:Fr No W0 W5:=by rw [hW5];exact G4.out.alloc _
   have hb8:Blk W5 g8 TMs #[.int .i64 2,.int .i64 id,.int .i64 mf,.int .i64 mt2,.int .i64 0,.int .i64 0,.int .i64 0,.bool false,.slice none 0 0]:=by rw [hW5,hg8];exact Blk.new _ _ _
   have arz:w.heap.size≤g8:=by rw [hg8];exact F4.out.size
   have ap9:¬F g8:=fun hh=>by have:=HFL.out g8 hh;omega
   obtain ⟨c0,c1,c2,c3,c4,c5,c6,c7,c8⟩:=HC.out _ hG5;obtain ⟨x0,x1,x2,x3,x4,x5,x6,x7,x8⟩:=aL (m:=⟨2,id,mf,mt2,0,0,0,false,[]⟩) hb8;simp only at x0 x1 x2 x3 x4 x5 x6 x7 x8;have hgr:=HGR.out;obtain ⟨HW5,HG8,HF5,HG5,HB8⟩:=jr hW5 hg8 hF5 hG5 hb8;clear hW5 hg8 hF5 hG5 hb8;obtain ⟨TB,hTB⟩:∃b,b=(mt == mt2):=⟨_,rfl⟩;have aql:decide (mt=mt2)=TB:=by rw [hTB];by_cases q:mt=mt2<;>simp [q]
   rw [aql] at hgr;clear aql;have HTB:=O hTB.symm;clear hTB
   by_cases aqp:GR=true
   ·subst aqp
    have h1:TB=true∧FB=true∧GB=true:=by
     have h2:=hgr.symm;simp only [Bool.and_eq_true] at h2;exact ⟨h2.1,h2.2.1,h2.2.2⟩
    obtain ⟨rfl,rfl,rfl⟩:=h1;have u0:=HTB.out;have alh:=lW.out rfl;have hov:=abd.out rfl;clear hgr;obtain ⟨aov,HOV⟩:=aO alh hov;clear alh hov
    go_wp2_with fail
    rw [←HG8.out,←HW5.out]
    go_quiet ((go_at_call 12;exact aI (HT.out _ (HF5.out.drewN _))))
    go_wp2_with fail
    refine (aov.out _ frz).mono ?_;rintro e w6 ⟨rfl,t6⟩;have b8:Blk w6 g8 TMs #[.int .i64 2,.int .i64 id,.int .i64 mf,.int .i64 mt2,.int .i64 0,.int .i64 0,.int .i64 0,.bool false,.slice none 0 0]:=(HB8.out.zF nq).fr (let ⟨_,_,_,f⟩:=t6;f) ap9;have f7:=b8.frozen 7;have hl8:=HB8.out.lt;have T7:=O (RTo.am4 (HF5.out.drewN nq) t6 arz (by simpa using hl8) ap9 7 (.bool true));clear t6 x0 x1 x2 x3 x4 x5 x6 x7 x8;obtain ⟨x0,x1,x2,x3,x4,x5,x6,x7,x8⟩:=aL (m:=⟨2,id,mf,mt2,0,0,0,false,[]⟩) b8;simp only at x0 x1 x2 x3 x4 x5 x6 x7 x8;clear b8
    go_wp2_with fail
    go_ret
    rw [HOV.out];exact aQ.mk' T7.out ⟨_,_,rfl,bF.one (m:=⟨2,id,mf,mt2,0,0,0,true,[]⟩) (Blk.new' _ _ _ _ (by simp)) (by simp) (Ent.nil _ _),aj _ _⟩
   ·obtain rfl:GR=false:=by simpa using aqp
    have hov:=HNO.out rfl;have hst:=bZ.out;obtain ⟨HOV,HST⟩:=aO hov hst;clear hov hst;have h1:(TB=false)∨(TB=true∧FB=false)∨(TB=true∧FB=true∧GB=false):=by
     cases TB
     ·exact .inl rfl
     ·cases FB
      ·exact .inr (.inl ⟨rfl,rfl⟩)
      ·cases GB
       ·exact .inr (.inr ⟨rfl,rfl,rfl⟩)
       ·cases hgr
    clear hgr
    rcases h1 with rfl|⟨rfl,rfl⟩|⟨rfl,rfl,rfl⟩
    all_goals
     have u0:=HTB.out
     go_wp2_with fail
     rw [←HG8.out,←HW5.out]
     go_quiet ((go_at_call 12;exact aI (HT.out _ (HF5.out.drewN _))))
     go_wp2_with fail
     go_ret
     rw [HOV.out];exact aQ.mk' (HST.out _ (HF5.out.drewN nq)) ⟨_,_,rfl,bF.one (m:=⟨2,id,mf,mt2,0,0,0,false,[]⟩) (Blk.new' _ _ _ _ (by simp)) (by simp) (Ent.nil _ _),aj _ _⟩
end
end
section
theorem aiq:∀v,v<32→∀f,f<5→Go.bits BinOp.or IntKind.i64 ((v:Nat):Int) (wrap64 (2 ^ f))=((v |||2 ^ f:Nat):Int):=by decide+kernel
theorem agt:∀v,v<32→∀k,k<5→wrap64 (((lS v k:Nat):Int)+Go.bits BinOp.and IntKind.i64 (((v:Nat):Int) / 2 ^ k) 1)=((lS v (k+1):Nat):Int):=by decide+kernel
theorem ajd (v:Nat):∀k,lS v k≤k:=by
 intro k
 induction k with
 |zero=>exact Nat.le_refl _
 |succ k ih=>simp only [lS];split<;>omega
section
variable {w w' :World}{F G:Nat→Prop}{p:Nat}{r:Rs}{s:Js}{n:Nat}
set_option maxHeartbeats 8000000 in
theorem uj (h:RAt w F p r n)(m:Ms)(v:Value)(hm:bH r m):Calls Tryz.prog 102 #[.pointer (some ⟨p,0,none⟩),m.v v] w (aQ w F p (r.bW m) n):=by
 have hok:=h.ok;have ae5:=hok.zO hm;have ake:=hm.f0;have akd:=hm.f1;have h5n:=hok.five;have hvt:=hok.vts;have hT:=fun W (hf:Fr No w W)=>iq (h.ak hf).rj;have hstill:=fun W (hf:Fr No w W)=>h.still hf;have hno:(r.role≠2∨m.term≠r.js.term∨m.ok=false)→r.bW m=(r,[]):=fun hh=>by unfold Rs.bW;rw [if_pos hh]
 have aj9:¬(r.role≠2∨m.term≠r.js.term∨m.ok=false)→2*lS (r.aY |||2 ^ m.from_.toNat) r.n≤r.n→r.bW m=({r with aY:=r.aY |||2 ^ m.from_.toNat},[]):=fun hh h2=>by unfold Rs.bW;rw [if_neg hh,if_pos h2]
 have hyes:¬(r.role≠2∨m.term≠r.js.term∨m.ok=false)→¬2*lS (r.aY |||2 ^ m.from_.toNat) r.n≤r.n→r.bW m=(({r with aY:=r.aY |||2 ^ m.from_.toNat}:Rs).lead,({r with aY:=r.aY |||2 ^ m.from_.toNat}:Rs).lead.gF):=fun hh h2=>by unfold Rs.bW;rw [if_neg hh,if_neg h2]
 obtain ⟨W0,hW0⟩:∃W0,W0=w.alloc (.cells (m.cells v).toArray TMs):=⟨_,rfl⟩;have hf0:Fr No w W0:=by rw [hW0];exact aj _ _
 obtain ⟨g,hg⟩:∃g,g=w.heap.size:=⟨_,rfl⟩;have hb:Blk W0 g TMs (m.cells v).toArray:=by rw [hW0,hg];exact Blk.new _ _ _
 have hP:∀W,Fr No w W→W.cell? ⟨p,3,none⟩=some (.int .i64 r.role):=fun W hW=>(let ⟨_,_,_,_,_,h1,_⟩:=h.ak hW;h1.cell 3);have hC:=fun W (hf:Fr No W0 W)=>aL (m:=m) (hb.fr hf id);have h0:=h.ak hf0;generalize hOV:r.bW m=OV at*;obtain ⟨kd,mf,mto,mt,ix,pv,cm,ok,es⟩:=m;simp only [Ms.cells] at hW0 hC;simp only at*;obtain ⟨c0,c1,c2,c3,c4,c5,c6,c7,c8⟩:=hC _ (Fr.refl _ _);have p3:=hP _ hf0
 by_cases q1:r.role≠2∨mt≠r.js.term∨ok=false
 ·have hov:=hno q1
  have hst:=hstill;have h3:(r.role≠2)∨(r.role=2∧mt≠r.js.term)∨(r.role=2∧mt=r.js.term∧ok=false):=by
   by_cases a:r.role=2
   ·by_cases b:mt=r.js.term
    ·rcases q1 with q|q|q
     ·exact absurd a q
     ·exact absurd b q
     ·exact .inr (.inr ⟨a,b,q⟩)
    ·exact .inr (.inl ⟨a,b⟩)
   ·exact .inl a
  generalize r.js.term=tt at*;clear h h0 hok ae5 hno aj9 hyes hm hb hP q1 hOV hstill hvt;obtain ⟨HOV,HST,HT,HW0,HF0,HG,HC⟩:=nC hov hst hT hW0 hf0 hg hC;clear hov hst hT hW0 hf0 hg hC
  rcases h3 with a|⟨a,b⟩|⟨a,b,rfl⟩
  ·have u1:(r.role == 2)=false:=by simpa using a
   have u2:(r.role != 2)=true:=by simpa using a
   clear a
   go_in
   go_wp2_with fail
   rw [←HG.out,←HW0.out]
   go_quiet ((go_at_call 12;exact aI (HT.out _ (HF0.out.drewN _))))
   go_wp2_with fail
   go_ret
   rw [HOV.out];exact aQ.mk' (HST.out _ frz) (fF.none_ _)
  ·have u1:(r.role == 2)=true:=by simpa using a
   have u2:(r.role != 2)=false:=by simpa using a
   have v1:(mt == tt)=false:=by simpa using b
   have v2:(mt != tt)=true:=by simpa using b
   clear a b
   go_in
   go_wp2_with fail
   rw [←HG.out,←HW0.out]
   go_quiet ((go_at_call 12;exact aI (HT.out _ (HF0.out.drewN _))))
   go_wp2_with fail
   go_ret
   rw [HOV.out];exact aQ.mk' (HST.out _ frz) (fF.none_ _)
  ·have u1:(r.role == 2)=true:=by simpa using a
   have u2:(r.role != 2)=false:=by simpa using a
   have v1:(mt == tt)=true:=by simpa using b
   have v2:(mt != tt)=false:=by simpa using b
   clear a b
   go_in
   go_wp2_with fail
   rw [←HG.out,←HW0.out]
   go_quiet ((go_at_call 12;exact aI (HT.out _ (HF0.out.drewN _))))
   go_wp2_with fail
   go_ret
   rw [HOV.out];exact aQ.mk' (HST.out _ frz) (fF.none_ _)
 ·have a:r.role=2:=by
   apply Classical.byContradiction
   intro hh;exact q1 (.inl hh)
  have b:mt=r.js.term:=by
   apply Classical.byContradiction
   intro hh;exact q1 (.inr (.inl hh))
  have c:ok=true:=by
   cases ok
   ·exact absurd (Or.inr (Or.inr rfl)) q1
   ·rfl
  subst c;replace aj9:=aj9 q1;replace hyes:=hyes q1;obtain ⟨j,Fj,bits,nx,mtc,h1,h2,h3,h4,h5,h6,h7,-⟩:=h0;have aod:=h7.1 a;subst aod;obtain ⟨f,hfm⟩:∃f:Nat,mf=f:=⟨mf.toNat,by omega⟩;subst hfm;rw [Int.toNat_natCast] at aj9 hyes ae5;have hf5:f<5:=by omega
  have p5:W0.cell? ⟨p,5,none⟩=some (.int .i64 (r.aY:Int)):=h1.cell 5;have pf5:=h1.frozen 5;have u1:(r.role == 2)=true:=by simpa using a
  have u2:(r.role != 2)=false:=by simpa using a
  have v1:(mt == r.js.term)=true:=by simpa using b
  have v2:(mt != r.js.term)=false:=by simpa using b
  obtain ⟨HA,HV⟩:=aO a (aiq r.aY hvt f hf5);clear a b q1 hno hm hok;obtain ⟨HT,HW0,HF0,HG,HC,bZ,asv,abd,HB,HP,HOV,aqy⟩:=gY hT hW0 hf0 hg hC hstill aj9 hyes hb hP hOV ae5;obtain ⟨H1,H2,H3,H4,H5,H6,H7⟩:=nC h1 h2 h3 h4 h5 h6 h7;clear hT hW0 hf0 hg hC hstill aj9 hyes hb hP hOV ae5 h1 h2 h3 h4 h5 h6 h7
  go_in
  go_wp2_with fail
  rw [←HG.out,←HW0.out]
  go_quiet ((go_at_call 12;exact aI (HT.out _ (HF0.out.drewN _))))
  go_wp2_with fail
  go_region
  all_goals
   rw [HV.out];generalize hnq:nq+1=nq1 at*;obtain ⟨W1,hW1⟩:∃W1,W1=(W0.drewN nq1).setCell ⟨p,5,none⟩ (.int .i64 ((r.aY |||2 ^ f:Nat):Int)):=⟨_,rfl⟩;rw [←hW1];have hr1:RTo W0 F p {r with aY:=r.aY |||2 ^ f} n W1:=by
    rw [hW1];exact RAt.cells (r:=r) (r' :={r with aY:=r.aY |||2 ^ f}) H2.out H3.out H4.out H5.out H6.out (bits' :=((r.aY |||2 ^ f:Nat):Int)) (nx' :=nx) (mt' :=mtc) (((Fr.refl (fun i=>i=p) W0).drewN _).setCell (p:=⟨p,5,none⟩) (.inl rfl) _) (((H1.out.zF _).aU 5 _).conv rfl) rfl ⟨fun _=>rfl,fun hh=>by rw [show ({r with aY:=r.aY |||2 ^ f}:Rs).role=r.role from rfl,HA.out] at hh;simp at hh⟩ aqy.out
   obtain ⟨G1,a1,i1,f1⟩:=hr1;have c5:W1.cell? ⟨p,5,none⟩=some (.int .i64 ((r.aY |||2 ^ f:Nat):Int)):=by rw [hW1];exact ((H1.out.zF _).aU 5 _).cell 5
   have c2:W1.cell? ⟨p,2,none⟩=some (.int .i64 (r.n:Int)):=(let ⟨_,_,_,_,_,k1,_⟩:=a1;k1.cell 2);have ar6:r.aY |||2 ^ f<32:=aqy.out.vts;have R1:=O (RTo.after HF0.out (⟨G1,a1,i1,f1⟩:RTo W0 F p {r with aY:=r.aY |||2 ^ f} n W1));clear hW1 p3 p5 pf5 c0 c1 c3 c4 c6 c7 c8 a1 i1 f1 hnq;generalize hVV:r.aY |||2 ^ f=V at*;clear hVV
   go_wp2_with fail
   go_loop [5,39] (fun c i=>∃k:Nat,k≤r.n∧i= .int .i64 k∧c= .int .i64 (lS V k:Int)) (fun _ i=>r.n-(intOf i).toNat)
   case atStart=>exact ⟨0,Nat.zero_le _,rfl,rfl⟩
   case round=>
    obtain ⟨k,hk,rfl,rfl⟩:=hrel
    by_cases hkn:k<r.n
    ·have hkn2:(k:Int)<(r.n:Int):=by omega
     have HS:=O (agt V ar6 k oy)
     go_wp2_with fail
     go_round
     case rel=>exact ⟨k+1,by omega,by go_num,by rw [HS.out]⟩
     case measure=>simp [intOf];omega
    ·obtain rfl:k=r.n:=by omega
     have hcl:=ajd V r.n;have w1:decide (r.n<r.n)=false:=by simp
     by_cases ai4:2*lS V r.n≤r.n
     ·have x1:2*(lS V r.n:Int)≤(r.n:Int):=by omega
      have x2:decide (2*(lS V r.n:Int)≤(r.n:Int))=true:=by simpa using x1
      have zn:=asv.out ai4;clear ai4;have ahv:=O zn;clear zn
      go_wp2_with fail
      go_ret
      rw [ahv.out];exact aQ.mk' R1.out (fF.none_ _)
     ·have x1:¬2*(lS V r.n:Int)≤(r.n:Int):=by omega
      have x2:decide (2*(lS V r.n:Int)≤(r.n:Int))=false:=by simpa using x1
      have zn:=abd.out ai4;obtain ⟨G2,a2,i2,f2⟩:=R1.out;have hle:=ahc a2;have hfin:=fun W (hr:RTo W1 G2 p ({r with aY:=V}:Rs).lead n W)=>RTo.then f2 i2 hr;clear ai4 a2 i2 f2;obtain ⟨ahv,HLE,bS⟩:=bP zn hle hfin;clear zn hle hfin
      go_wp2_with fail
      refine HLE.out.mono ?_;rintro e w3 ⟨rfl,t3⟩;obtain ⟨G3,a3,i3,f3⟩:=bS.out _ t3;have hot:=jX a3 rfl;have hrt:RTo w F p ({r with aY:=V}:Rs).lead n w3:=⟨G3,a3,i3,f3⟩
      change Calls _ _ _ _ (fF w3 ({r with aY:=V}:Rs).lead.gF) at hot
      have zn:=ahv.out;generalize ({r with aY:=V}:Rs).lead.gF=ms at*;clear t3 a3 i3 f3 ahv;obtain ⟨HOT,HRT,ahv⟩:=bP hot hrt zn;clear hot hrt zn
      go_wp2_with fail
      refine HOT.out.mono ?_;rintro e w5 m5;have M:=O m5;obtain ⟨A5,c5',rfl,-,-⟩:=m5
      go_wp2_with fail
      go_ret
      rw [ahv.out];exact aQ.mk' HRT.out M.out
end
end
section
section
variable {w w' :World}{F G:Nat→Prop}{p:Nat}{r:Rs}{s:Js}{n:Nat}
set_option maxHeartbeats 8000000 in
theorem rG (h:RAt w F p r n)(m:Ms)(v:Value)(hm:bH r m):Calls Tryz.prog 104 #[.pointer (some ⟨p,0,none⟩),m.v v] w (aQ w F p (r.aR m) n):=by
 have hok:=h.ok;have hok2:=hok.aR (m:=m);have ake:=hm.f0;have akd:=hm.f1;have agd:=hm.i0;have agc:=hm.i1;have h5n:=hok.five;have lK:=hok.log.few;have hT:=fun W (hf:Fr No w W)=>iq (h.ak hf).rj;have hL:=fun W (hf:Fr No w W)=>qo (h.ak hf).rj;have hstill:=fun W (hf:Fr No w W)=>h.still hf;have hno:(r.role≠3∨m.term≠r.js.term)→r.aR m=(r,[]):=fun hh=>by unfold Rs.aR;rw [if_pos hh]
 obtain ⟨W0,hW0⟩:∃W0,W0=w.alloc (.cells (m.cells v).toArray TMs):=⟨_,rfl⟩;have hf0:Fr No w W0:=by rw [hW0];exact aj _ _
 obtain ⟨g,hg⟩:∃g,g=w.heap.size:=⟨_,rfl⟩;have hb:Blk W0 g TMs (m.cells v).toArray:=by rw [hW0,hg];exact Blk.new _ _ _
 have hP:∀W,Fr No w W→W.cell? ⟨p,3,none⟩=some (.int .i64 r.role):=fun W hW=>(let ⟨_,_,_,_,_,h1,_⟩:=h.ak hW;h1.cell 3);have hC:=fun W (hf:Fr No W0 W)=>aL (m:=m) (hb.fr hf id);have h0:=h.ak hf0;have hn1:¬(r.role≠3∨m.term≠r.js.term)→m.ok=false→r.aR m=({r with next:=setAt r.next m.from_.toNat (min (r.next m.from_.toNat-1) m.index.toNat)},[({r with next:=setAt r.next m.from_.toNat (min (r.next m.from_.toNat-1) m.index.toNat)}:Rs).app m.from_.toNat]):=fun hh h2=>by unfold Rs.aR;rw [if_neg hh,if_pos h2]
 have hn2:¬(r.role≠3∨m.term≠r.js.term)→m.ok=true→m.index≤r.js.log.length→r.aR m=(({r with cO:=setAt r.cO m.from_.toNat (max (r.cO m.from_.toNat) m.index.toNat),next:=setAt r.next m.from_.toNat (max (r.cO m.from_.toNat) m.index.toNat)}:Rs).advance,[]):=fun hh h2 h3=>by unfold Rs.aR;rw [if_neg hh,if_neg (by rw [h2];simp),if_pos h3]
 have hn3:¬(r.role≠3∨m.term≠r.js.term)→m.ok=true→¬m.index≤r.js.log.length→r.aR m=(r,[]):=fun hh h2 h3=>by unfold Rs.aR;rw [if_neg hh,if_neg (by rw [h2];simp),if_neg h3]
 generalize hOV:r.aR m=OV at*;obtain ⟨kd,mf,mto,mt,ix,pv,cm,ok,es⟩:=m;simp only [Ms.cells] at hW0 hC;simp only at*;obtain ⟨f,rfl⟩:∃f:Nat,mf=f:=⟨mf.toNat,by omega⟩;obtain ⟨i,rfl⟩:∃i:Nat,ix=i:=⟨ix.toNat,by omega⟩;rw [Int.toNat_natCast] at hn1 hn2;rw [Int.toNat_natCast] at hn1 hn2;have hf5:f<5:=by omega
 have atp:(0:Int)≤(f:Int):=by omega
 have ato:(f:Int)<5:=by omega
 obtain ⟨c0,c1,c2,c3,c4,c5,c6,c7,c8⟩:=hC _ (Fr.refl _ _);have p3:=hP _ hf0
 by_cases q1:r.role≠3∨mt≠r.js.term
 ·have hov:=hno q1
  have hst:=hstill;have h3:(r.role≠3)∨(r.role=3∧mt≠r.js.term):=by
   by_cases a:r.role=3
   ·exact .inr ⟨a,by rcases q1 with q|q;exact absurd a q;exact q⟩
   ·exact .inl a
  generalize r.js.term=tt at*;clear h h0 hok hok2 hno hn1 hn2 hn3 hm hb hP q1 hOV hstill hL;obtain ⟨HOV,HST,HT,HW0,HF0,HG,HC⟩:=nC hov hst hT hW0 hf0 hg hC;clear hov hst hT hW0 hf0 hg hC
  rcases h3 with a|⟨a,b⟩
  ·have u1:(r.role == 3)=false:=by simpa using a
   have u2:(r.role != 3)=true:=by simpa using a
   clear a
   go_in
   go_wp2_with fail
   rw [←HG.out,←HW0.out]
   go_quiet ((go_at_call 12;exact aI (HT.out _ (HF0.out.drewN _))))
   go_wp2_with fail
   go_ret
   rw [HOV.out];exact aQ.mk' (HST.out _ frz) (fF.none_ _)
  ·have u1:(r.role == 3)=true:=by simpa using a
   have u2:(r.role != 3)=false:=by simpa using a
   have v1:(mt == tt)=false:=by simpa using b
   have v2:(mt != tt)=true:=by simpa using b
   clear a b
   go_in
   go_wp2_with fail
   rw [←HG.out,←HW0.out]
   go_quiet ((go_at_call 12;exact aI (HT.out _ (HF0.out.drewN _))))
   go_wp2_with fail
   go_ret
   rw [HOV.out];exact aQ.mk' (HST.out _ frz) (fF.none_ _)
 have a:r.role=3:=by
  apply Classical.byContradiction
  intro hh;exact q1 (.inl hh)
 have b:mt=r.js.term:=by
  apply Classical.byContradiction
  intro hh;exact q1 (.inr hh)
 replace hn1:=hn1 q1;replace hn2:=hn2 q1;replace hn3:=hn3 q1;have hnx:=hok.nxt a f;have hmx:=hok.mts a f;have u1:(r.role == 3)=true:=by simpa using a
 have u2:(r.role != 3)=false:=by simpa using a
 have v1:(mt == r.js.term)=true:=by simpa using b
 have v2:(mt != r.js.term)=false:=by simpa using b
 obtain ⟨j,Fj,bits,nx,mtc,h1,h2,h3,h4,h5,h6,h7,-⟩:=h0;have iQ:=h7.at_ a (i:=f) oy;have p6:W0.cell? ⟨p,6+f,none⟩=some (.int .i64 (r.next f:Int)):=by rw [←iQ.1];exact (iy h1 hf5).1
 have p11:W0.cell? ⟨p,11+f,none⟩=some (.int .i64 (r.cO f:Int)):=by rw [←iQ.2];exact (iy h1 hf5).2
 have pf6:=h1.frozen (6+f);have am5:=h1.frozen (11+f)
 cases ok
 ·replace hn1:=hn1 rfl
  rw [hn1] at hok2;have hr1:∀(k:Nat) (x:Int),x=((min (r.next f-1) i:Nat):Int)→RTo W0 F p {r with next:=setAt r.next f (min (r.next f-1) i)} n ((W0.drewN k).setCell ⟨p,6+f,none⟩ (.int .i64 x)):=fun k x hx=>RAt.cells (r:=r) (r' :={r with next:=setAt r.next f (min (r.next f-1) i)}) h2 h3 h4 h5 h6 (bits' :=bits) (nx' :=abu nx f x) (mt' :=mtc) (((Fr.refl (fun i=>i=p) W0).drewN _).setCell (p:=⟨p,6+f,none⟩) (.inl rfl) _) (oZ (h1.zF _) hf5 x) rfl ⟨h7.1,fun hh k hk=>by
   have hs2:=h7.at_ a hk;simp only [abu,setAt];refine ⟨?_,hs2.2⟩
   split
   ·exact hx
   ·exact hs2.1⟩ hok2
  have hxv:(if 0<(if (i:Int)<(r.next f:Int)-1 then (i:Int) else (r.next f:Int)-1) then (if (i:Int)<(r.next f:Int)-1 then (i:Int) else (r.next f:Int)-1) else 0)=((min (r.next f-1) i:Nat):Int):=by split<;>split<;>omega
  have happ:=fun W (hr:RTo W0 F p {r with next:=setAt r.next f (min (r.next f-1) i)} n W)=>(let ⟨G,q,_,_⟩:=hr;qp q a f (show f<r.n by omega):Calls Tryz.prog 89 #[.pointer (some ⟨p,0,none⟩),.int .i64 (f:Int)] W (yG W (({r with next:=setAt r.next f (min (r.next f-1) i)}:Rs).app f)));generalize ({r with next:=setAt r.next f (min (r.next f-1) i)}:Rs).app f=am at*;have hgF:¬F g:=fun hh=>by have:=h.lt g hh;omega
  have hgc:∀W,RTo W0 F p {r with next:=setAt r.next f (min (r.next f-1) i)} n W→W.cell? ⟨g,1,none⟩=some (.int .i64 (f:Int)):=fun W hr=>(let ⟨G,_,_,q⟩:=hr;(hb.fr q hgF).cell 1);clear h h1 h2 h3 h4 h5 h6 h7 hok hok2 hno hn2 hn3 hm hb hP q1 hOV hstill hL iQ a b;obtain ⟨HXV,HN1,HR1,wQ,HT,HW0,HF0,HG,HC,HGC⟩:=lH hxv hn1 hr1 happ hT hW0 hf0 hg hC hgc;clear hxv hn1 hr1 happ hT hW0 hf0 hg hC hgc
  go_in
  go_wp2_with fail
  rw [←HG.out,←HW0.out]
  go_quiet ((go_at_call 12;exact aI (HT.out _ (HF0.out.drewN _))))
  go_wp2_with fail
  go_region
  all_goals
   rw [HXV.out];generalize (if (i:Int)<(r.next f:Int)-1 then (i:Int) else (r.next f:Int)-1)=mn;have hr9:=HR1.out (nq+1) _ rfl;generalize (W0.drewN (nq+1)).setCell ⟨p,6+f,none⟩ (.int .i64 ((min (r.next f-1) i:Nat):Int))=W1 at*;have c1:=HGC.out _ hr9;have ha9:=wQ.out _ hr9;have R9:=O (RTo.after HF0.out hr9);clear hr9;have HA9:=O ha9;clear ha9
   go_wp2_with fail
   refine HA9.out.mono ?_;rintro e w5 ⟨x,rfl,hx,f5⟩;obtain ⟨HX,F5⟩:=aO hx f5;clear hx f5
   go_wp2_with fail
   go_ret
   rw [HN1.out];exact aQ.mk' R9.out ⟨_,_,rfl,bF.one (m:=am) (Blk.new' _ _ _ _ rfl) (F5.out.size) ((HX.out.lt.ak (aj _ _)).mono fun i hi=>⟨hi.1,by have:=hi.2;omega⟩),F5.out.alloc _⟩
 ·replace hn2:=hn2 rfl
  replace hn3:=hn3 rfl
  by_cases hil:(i:Int)≤(r.js.log.length:Int)
  ·replace hn2:=hn2 hil
   rw [hn2] at hok2;have hxv:(if r.cO f<i then (i:Int) else (r.cO f:Int))=((max (r.cO f) i:Nat):Int):=by split<;>omega
   have apz:bU {r with cO:=setAt r.cO f (max (r.cO f) i),next:=setAt r.next f (max (r.cO f) i)}:=by
    refine ⟨hok.log,hok.lo,hok.hi,hok.vlo,hok.vhi,hok.idn,hok.five,hok.role,hok.com,hok.vts,fun hh q=> ?_,fun hh q=> ?_⟩
    ·simp only [setAt]
     have:=hok.nxt a q
     split<;>omega
    ·simp only [setAt]
     have:=hok.mts a q
     split<;>omega
   have hr1:∀(W:World) (hW:Fr No W0 W),RTo W0 F p {r with cO:=setAt r.cO f (max (r.cO f) i),next:=setAt r.next f (max (r.cO f) i)} n (((W.setCell ⟨p,11+f,none⟩ (.int .i64 ((max (r.cO f) i:Nat):Int))).setCell ⟨p,6+f,none⟩ (.int .i64 ((max (r.cO f) i:Nat):Int)))):=fun W hW=>RTo.after hW (RAt.cells (w:=W) (r:=r) (r' :={r with cO:=setAt r.cO f (max (r.cO f) i),next:=setAt r.next f (max (r.cO f) i)}) h2 (h3.ak hW) h4 h5 (fun i hi=>nll (h6 i hi) hW.size) (bits' :=bits) (nx' :=abu nx f ((max (r.cO f) i:Nat):Int)) (mt' :=abu mtc f ((max (r.cO f) i:Nat):Int)) (((Fr.refl (fun i=>i=p) W).setCell (p:=⟨p,11+f,none⟩) (.inl rfl) _).setCell (p:=⟨p,6+f,none⟩) (.inl rfl) _) (oZ (jT (h1.fr hW id) hf5 _) hf5 _) rfl ⟨h7.1,fun hh k hk=>by
    have hs2:=h7.at_ a hk;simp only [abu,setAt];refine ⟨?_,?_⟩
    ·split
     ·rfl
     ·exact hs2.1
    ·split
     ·rfl
     ·exact hs2.2⟩ apz)
   have hPW:∀W,Fr No W0 W→W.cell? ⟨p,6+f,none⟩=some (.int .i64 (r.next f:Int))∧W.cell? ⟨p,11+f,none⟩=some (.int .i64 (r.cO f:Int))∧W.frozen? ⟨p,6+f,none⟩=false∧W.frozen? ⟨p,11+f,none⟩=false:=fun W hW=>(let q:=h1.fr hW id;⟨by rw [←iQ.1];exact (iy q hf5).1,by rw [←iQ.2];exact (iy q hf5).2,q.frozen _,q.frozen _⟩);have uS:=fun W (hr:RTo W0 F p {r with cO:=setAt r.cO f (max (r.cO f) i),next:=setAt r.next f (max (r.cO f) i)} n W)=>(let ⟨G,q,q2,q3⟩:=hr;(vR q a).mono fun e w' ⟨e1,e2⟩=>⟨e1,RTo.then q3 q2 e2⟩:Calls Tryz.prog 88 #[.pointer (some ⟨p,0,none⟩)] W fun e w' =>e= .returned (.tuple #[])∧RTo W0 F p ({r with cO:=setAt r.cO f (max (r.cO f) i),next:=setAt r.next f (max (r.cO f) i)}:Rs).advance n w');have hgF:¬F g:=fun hh=>by have:=h.lt g hh;omega
   have hd1:decide ((i:Int)≤(r.js.log.length:Int))=true:=by simpa using hil
   have hgp:g≠p:=fun hh=>hgF (hh▸h2);have hW3:∀W,Fr No W0 W→((W.setCell ⟨p,11+f,none⟩ (.int .i64 ((max (r.cO f) i:Nat):Int))).drew.cell? ⟨g,1,none⟩=some (.int .i64 (f:Int)))∧((W.setCell ⟨p,11+f,none⟩ (.int .i64 ((max (r.cO f) i:Nat):Int))).drew.cell? ⟨p,6+f,none⟩=some (.int .i64 (nx f)))∧((W.setCell ⟨p,11+f,none⟩ (.int .i64 ((max (r.cO f) i:Nat):Int))).drew.cell? ⟨p,11+f,none⟩=some (.int .i64 ((max (r.cO f) i:Nat):Int)))∧((W.setCell ⟨p,11+f,none⟩ (.int .i64 ((max (r.cO f) i:Nat):Int))).drew.frozen? ⟨p,6+f,none⟩=false):=fun W hW=>(let q:=jT (h1.fr hW id) hf5 ((max (r.cO f) i:Nat):Int);⟨((hb.fr hW id).aF hgp _).dA.cell 1,(iy q.dA hf5).1,by rw [(iy q.dA hf5).2];simp [abu],q.dA.frozen _⟩);clear h h1 h2 h3 h4 h5 h6 h7 hok hok2 hno hn1 hn3 hm hb hP q1 hOV hstill iQ a b apz hgp;obtain ⟨HW3,HN2,HR1,HPW,abg,HT,HL,HW0,HF0,HG,HC,HXV⟩:=gY hW3 hn2 hr1 hPW uS hT hL hW0 hf0 hg hC hxv;clear hW3 hn2 hr1 hPW uS hT hL hW0 hf0 hg hC hxv
   go_in
   go_wp2_with fail
   rw [←HG.out,←HW0.out]
   go_quiet ((go_at_call 12;exact aI (HT.out _ (HF0.out.drewN _))))
   go_wp2_with fail
   have K1:=O ((Fr.refl No W0).drewN nq);generalize W0.drewN nq=W1 at*;clear p6 p11 pf6 am5 c0 c1 c2 c3 c4 c5 c6 c7 c8;obtain ⟨c0,c1,c2,c3,c4,c5,c6,c7,c8⟩:=HC.out _ K1.out
   go_quiet ((go_at_call 56;exact aI (HL.out _ ((HF0.out.ah K1.out).drewN _))))
   go_wp2_with fail
   replace K1:=O (K1.out.drewN nq);generalize W1.drewN nq=W2 at*;clear c0 c1 c2 c3 c4 c5 c6 c7 c8;obtain ⟨c0,c1,c2,c3,c4,c5,c6,c7,c8⟩:=HC.out _ K1.out;obtain ⟨p6,p11,pf6,am5⟩:=HPW.out _ K1.out
   go_region
   all_goals
    rw [HXV.out];clear c0 c1 c2 c3 c4 c5 c6 c7 c8 p6 p11 pf6 am5;obtain ⟨c1,p6,p11,pf6⟩:=HW3.out _ K1.out;obtain ⟨W3,aoe⟩:∃W3,W3=(W2.setCell ⟨p,11+f,none⟩ (.int .i64 ((max (r.cO f) i:Nat):Int))).drew:=⟨_,rfl⟩;have asg:=O aoe;rw [←aoe] at c1 p6 p11 pf6 ⊢;clear aoe
    go_wp2_with fail
    go_region
    all_goals
     have hr9:RTo W0 F p {r with cO:=setAt r.cO f (max (r.cO f) i),next:=setAt r.next f (max (r.cO f) i)} n (W3.setCell ⟨p,6+f,none⟩ (.int .i64 ((max (r.cO f) i:Nat):Int))).drew:=by
      rw [asg.out];exact (HR1.out W2 K1.out).quiet (((Fr.refl No _).drew).drew)
     have ha9:=abg.out _ hr9;clear hr9;generalize (W3.setCell ⟨p,6+f,none⟩ (.int .i64 ((max (r.cO f) i:Nat):Int))).drew=W4 at*;have HA9:=O ha9;clear ha9
     go_wp2_with fail
     refine HA9.out.mono ?_;rintro e w5 ⟨rfl,t5⟩;have R9:=O (RTo.after HF0.out t5);clear t5
     go_wp2_with fail
     go_ret
     rw [HN2.out];exact aQ.mk' R9.out (fF.none_ _)
  ·replace hn3:=hn3 hil
   have hd1:decide ((i:Int)≤(r.js.log.length:Int))=false:=by simpa using hil
   clear h h1 h2 h3 h4 h5 h6 h7 hok hok2 hno hn1 hn2 hm hb hP q1 hOV iQ a b;obtain ⟨HN3,bZ,HT,HL,HW0,HF0,HG,HC⟩:=ae6 hn3 hstill hT hL hW0 hf0 hg hC;clear hn3 hstill hT hL hW0 hf0 hg hC
   go_in
   go_wp2_with fail
   rw [←HG.out,←HW0.out]
   go_quiet ((go_at_call 12;exact aI (HT.out _ (HF0.out.drewN _))))
   go_wp2_with fail
   have K1:=O ((Fr.refl No W0).drewN nq);generalize W0.drewN nq=W1 at*;clear p6 p11 pf6 am5 c0 c1 c2 c3 c4 c5 c6 c7 c8;obtain ⟨c0,c1,c2,c3,c4,c5,c6,c7,c8⟩:=HC.out _ K1.out
   go_quiet ((go_at_call 56;exact aI (HL.out _ ((HF0.out.ah K1.out).drewN _))))
   go_wp2_with fail
   go_ret
   rw [HN3.out];exact aQ.mk' (bZ.out _ ((HF0.out.ah K1.out).drewN _)) (fF.none_ _)
end
end
section
theorem eZ.weak {y:Bool}{w w' :World}{F:Nat→Prop}{j n:Nat}{s:Js}(h:eZ y w F j s n w'):eZ false w F j s n w' :=by
 obtain ⟨F',h1,h2,h3⟩:=h;exact ⟨F',h1.weak,h2,h3⟩
theorem eZ.more {y:Bool}{w w' :World}{F:Nat→Prop}{j n m:Nat}{s:Js}(h:eZ y w F j s n w')(hn:n≤m):eZ y w F j s m w' :=by
 obtain ⟨F',h1,h2,h3⟩:=h;exact ⟨F',h1.more hn,h2,h3⟩
theorem eZ.after {y:Bool}{w w1 w' :World}{F:Nat→Prop}{j n:Nat}{s:Js}(hf:Fr No w w1)(h:eZ y w1 F j s n w'):eZ y w F j s n w' :=by
 obtain ⟨F',h1,h2,h3⟩:=h;exact ⟨F',h1,fun i hi=>(h2 i hi).imp id (Nat.le_trans hf.size),(hf.mono (G:=F) fun _ hi=>hi.elim).trans h3 fun i hi=> .inl hi⟩
section
variable {w w' :World}{F G:Nat→Prop}{p:Nat}{r:Rs}{s:Js}{n:Nat}
set_option maxHeartbeats 8000000 in
theorem ac1 (h:RAt w F p r n)(pp:Nat)(hpp:pp≤r.js.log.length)(A:Option Addr)(c:Nat)(es:List Lg)(hE:Ent w G (.slice A es.length c) es)(hGF:∀i,G i→¬F i)(hes:∀x∈es,x.e.ok)(hlen:es.length≤4096)(hr:bU {r with js:=replaceS r.js pp es})(hsz:n+600000≤140737488355328):
  Calls Tryz.prog 145 #[.pointer (some ⟨p,0,none⟩),.int .i64 (pp:Int),.slice A es.length c] w fun e w' =>e= .returned (.tuple #[])∧RTo w F p {r with js:=replaceS r.js pp es} (n+600000) w' :=by
 have hok:=h.ok;have lK:=hok.log.few;have hM:=hE.rd.2.2.2.1;unfold maxLen at hM;have hL:=qo h.rj;obtain ⟨j,Fj,bits,nx,mt,h1,h2,h3,h4,h5,h6,h7,-⟩:=h;have hpl:=h1.lt;have p0:w.cell? ⟨p,0,none⟩=some (.pointer (some ⟨j,0,none⟩)):=h1.cell 0;have hP:∀W,Fr Fj w W→W.cell? ⟨p,0,none⟩=some (.pointer (some ⟨j,0,none⟩)):=fun W hf=>(hf.cell (p:=⟨p,0,none⟩) hpl h5).trans p0;have hfin:=fun W (hj:eZ true w Fj j (replaceS r.js pp es) (n+600000) W)=>(RAt.jrn h1 h2 h4 h5 h6 h7 hj hr:RTo w F p {r with js:=replaceS r.js pp es} (n+600000) W);have hat:=fun i hi W (hf:Fr Fj w W)=>(hE.fr hf fun k hk hh=>hGF k hk (h4 k hh)).at_ (i:=i) hi
 by_cases hcut:pp<r.js.log.length
 ·obtain ⟨s1,hs1⟩:∃s1,s1=jP r.js (pp:Int):=⟨_,rfl⟩
  have hx0:jg r.js (pp:Int)=0:=by unfold jg;rw [if_neg oy]
  have hs2:s1=⟨r.js.term,r.js.cu,r.js.log.take pp⟩:=by rw [hs1];unfold jP;rw [if_pos hx0,Int.toNat_natCast]
  have hrep:replaceS r.js pp es=bO s1 es:=by unfold replaceS;rw [if_pos hcut,hs2]
  rw [hrep] at hfin ⊢;have hc:=aoj h3 (pp:Int) oy;rw [←hs1] at hc;have u1:decide (pp<r.js.log.length)=true:=by simpa using hcut
  generalize hll:r.js.log.length=ll at*;generalize jg r.js (pp:Int)=X at*;clear h1 h2 h3 h4 h5 h6 h7 hok hE hGF hr hs1 hs2 hpl hll hx0;obtain ⟨HL,HP,bS,HAT,HES,HC,qY⟩:=nC hL hP hfin hat hes hc hrep;clear hL hP hfin hat hes hc hrep
  go_in
  go_wp2_with fail
  refine HL.out.mono ?_;rintro e w1 ⟨rfl,rfl⟩
  go_wp2_with fail
  refine HC.out.mono ?_;rintro e w2 ⟨rfl,j2⟩;have T1:=O (show eZ false w Fj j (bO s1 (es.take 0)) (n+38+128*0) w2 from j2);clear j2 p0
  go_wp2_with fail
  go_loopw [20] (fun i wr=>∃k:Nat,k≤es.length∧i= .int .i64 k∧eZ false w Fj j (bO s1 (es.take k)) (n+38+128*k) wr) (fun i _=>es.length-(intOf i).toNat)
  case atStart=>exact ⟨0,Nat.zero_le _,rfl,T1.out⟩
  case round=>
   obtain ⟨k,hk,rfl,G1,a1,i1,f1⟩:=hrel;have p0r:=HP.out _ f1
   by_cases hlt:k<es.length
   ·have hlt2:(k:Int)<(es.length:Int):=by omega
    obtain ⟨b,off,x,rfl,hx,hcs⟩:=HAT.out k hlt wr f1;have hxm:x.e.ok:=HES.out x (List.mem_of_getElem? hx);have hstep:bO s1 (es.take (k+1))=gT (bO s1 (es.take k)) x.term x.e:=by
     rw [List.take_add_one,hx];unfold bO;rw [List.foldl_append]
     rfl
    obtain ⟨c0,c1,c2,c3,c4,c5,c6,c7,c8,c9⟩:=hcs _ (Fr.refl _ _);have hal:=a1.lt;have happ:=fun W (hf:Fr No wr W)=>uH (a1.ak hf) x.term x.e hxm oy;rw [←hstep] at happ;have kg:=fun W W' (hf:Fr No wr W) (hj:eZ false W G1 j (bO s1 (es.take (k+1))) (n+38+128*k+128) W')=>(eZ.then f1 i1 (eZ.after hf hj):eZ false w Fj j (bO s1 (es.take (k+1))) (n+38+128*k+128) W');obtain ⟨t,⟨k0,tick,te,ce,ot,ep,fr,un,nn⟩⟩:=x;unfold En.v at happ;simp only at*;obtain ⟨W1,hW1⟩:∃W1,W1=wr.alloc (.cells #[.int .i64 t,.int .i64 k0,.int .i64 tick,.int .i64 te,.int .i64 ce,.int .i64 ot,.int .i64 ep,.int .i64 fr,.int .i64 un,.int .i64 nn] TLg):=⟨_,rfl⟩;obtain ⟨g,hg⟩:∃g,g=wr.heap.size:=⟨_,rfl⟩;have hfa:Fr No wr W1:=by rw [hW1];exact aj _ _
    have hb1:Blk W1 g TLg #[.int .i64 t,.int .i64 k0,.int .i64 tick,.int .i64 te,.int .i64 ce,.int .i64 ot,.int .i64 ep,.int .i64 fr,.int .i64 un,.int .i64 nn]:=by rw [hW1,hg];exact Blk.new _ _ _
    have hgG:¬G1 g:=fun hh=>by have:=hal g hh;omega
    have hS0:=fun V (hf:Fr No W1 V)=>And.intro (HP.out _ (f1.trans (hfa.ah hf) fun _ h=>h.elim)) (kV (x:=⟨t,⟨k0,tick,te,ce,ot,ep,fr,un,nn⟩⟩) (hb1.fr hf id));have hB2:=fun V V' (hf:Fr No W1 V) (hj:Fr G1 V V')=>kV (x:=⟨t,⟨k0,tick,te,ce,ot,ep,fr,un,nn⟩⟩) ((hb1.fr hf id).fr hj hgG);have hfw:=fun V' (hj:eZ false w Fj j (bO s1 (es.take (k+1))) (n+38+128*k+128) V')=>HP.out V' (let ⟨_,_,_,q⟩:=hj;q);simp only at hS0 hB2;clear hx hxm hstep hcs a1 i1 f1 hal hb1 hgG;obtain ⟨wQ,oQ,HW1,HG,HFA,HS0,HB2,HFW⟩:=ae6 happ kg hW1 hg hfa hS0 hB2 hfw;clear happ kg hW1 hg hfa hS0 hB2 hfw
    go_wp2_with fail
    rw [←HG.out,←HW1.out]
    go_region_held3 (fun V=>V.cell? ⟨p,0,none⟩=some (.pointer (some ⟨j,0,none⟩))∧V.cell? ⟨g,0,none⟩=some (.int .i64 t)∧V.cell? ⟨g,1,none⟩=some (.int .i64 k0)∧V.cell? ⟨g,2,none⟩=some (.int .i64 tick)∧V.cell? ⟨g,3,none⟩=some (.int .i64 te)∧V.cell? ⟨g,4,none⟩=some (.int .i64 ce)∧V.cell? ⟨g,5,none⟩=some (.int .i64 ot)∧V.cell? ⟨g,6,none⟩=some (.int .i64 ep)∧V.cell? ⟨g,7,none⟩=some (.int .i64 fr)∧V.cell? ⟨g,8,none⟩=some (.int .i64 un)∧V.cell? ⟨g,9,none⟩=some (.int .i64 nn)) (first|exact ⟨p0r,e0,e1,e2,e3,e4,e5,e6,e7,e8,e9⟩|exact HS0.out _ frz) (first
     |(go_at_call 86;refine (wQ.out _ (HFA.out.ah frz)).mono ?_;rintro e w5 ⟨rfl,j5⟩;obtain ⟨e0,e1,e2,e3,e4,e5,e6,e7,e8,e9⟩:=HB2.out _ _ frz (let ⟨_,_,_,q⟩:=j5;q);have T5:=O (oQ.out _ _ (HFA.out.ah frz) j5);have p0r:=HFW.out _ T5.out;clear j5))
    clear e0 e1 e2 e3 e4 e5 e6 e7 e8 e9
    go_wp2_with fail
    go_roundw
    case rel=>exact ⟨k+1,by omega,by go_num,T5.out.more oy⟩
    case measure=>simp [intOf];omega
   ·obtain rfl:k=es.length:=by omega
    have u1:decide (es.length<es.length)=false:=by simp
    rw [List.take_length] at a1;have hsy:=zB a1;have hend:=fun W (hj:eZ true wr G1 j (bO s1 es) (n+38+128*es.length) W)=>bS.out W ((eZ.then f1 i1 hj).more oy);clear a1 i1 f1;obtain ⟨HSY,dZ⟩:=aO hsy hend;clear hsy hend
    go_wp2_with fail
    refine HSY.out.mono ?_;rintro e w6 ⟨rfl,j6⟩;have T6:=O (dZ.out _ j6);clear j6
    go_wp2_with fail
    go_end0
    exact ⟨rfl,T6.out⟩
 ·have hrep:replaceS r.js pp es=bO r.js es:=by unfold replaceS;rw [if_neg hcut]
  rw [hrep] at hfin ⊢;have T1:=O (show eZ false w Fj j (bO r.js (es.take 0)) (n+38+128*0) w from (h3.self.weak).more oy);have u1:decide (pp<r.js.log.length)=false:=by simpa using hcut
  generalize hs1:r.js=s1 at*;generalize hll:s1.log.length=ll at*;clear h1 h2 h3 h4 h5 h6 h7 hok hE hGF hr hs1 hpl hll p0;obtain ⟨HL,HP,bS,HAT,HES,qY⟩:=lG hL hP hfin hat hes hrep;clear hL hP hfin hat hes hrep
  go_in
  go_wp2_with fail
  refine HL.out.mono ?_;rintro e w1 ⟨rfl,rfl⟩
  go_wp2_with fail
  go_loopw [20] (fun i wr=>∃k:Nat,k≤es.length∧i= .int .i64 k∧eZ false w Fj j (bO s1 (es.take k)) (n+38+128*k) wr) (fun i _=>es.length-(intOf i).toNat)
  case atStart=>exact ⟨0,Nat.zero_le _,rfl,T1.out⟩
  case round=>
   obtain ⟨k,hk,rfl,G1,a1,i1,f1⟩:=hrel;have p0r:=HP.out _ f1
   by_cases hlt:k<es.length
   ·have hlt2:(k:Int)<(es.length:Int):=by omega
    obtain ⟨b,off,x,rfl,hx,hcs⟩:=HAT.out k hlt wr f1;have hxm:x.e.ok:=HES.out x (List.mem_of_getElem? hx);have hstep:bO s1 (es.take (k+1))=gT (bO s1 (es.take k)) x.term x.e:=by
     rw [List.take_add_one,hx];unfold bO;rw [List.foldl_append]
     rfl
    obtain ⟨c0,c1,c2,c3,c4,c5,c6,c7,c8,c9⟩:=hcs _ (Fr.refl _ _);have hal:=a1.lt;have happ:=fun W (hf:Fr No wr W)=>uH (a1.ak hf) x.term x.e hxm oy;rw [←hstep] at happ;have kg:=fun W W' (hf:Fr No wr W) (hj:eZ false W G1 j (bO s1 (es.take (k+1))) (n+38+128*k+128) W')=>(eZ.then f1 i1 (eZ.after hf hj):eZ false w Fj j (bO s1 (es.take (k+1))) (n+38+128*k+128) W');obtain ⟨t,⟨k0,tick,te,ce,ot,ep,fr,un,nn⟩⟩:=x;unfold En.v at happ;simp only at*;obtain ⟨W1,hW1⟩:∃W1,W1=wr.alloc (.cells #[.int .i64 t,.int .i64 k0,.int .i64 tick,.int .i64 te,.int .i64 ce,.int .i64 ot,.int .i64 ep,.int .i64 fr,.int .i64 un,.int .i64 nn] TLg):=⟨_,rfl⟩;obtain ⟨g,hg⟩:∃g,g=wr.heap.size:=⟨_,rfl⟩;have hfa:Fr No wr W1:=by rw [hW1];exact aj _ _
    have hb1:Blk W1 g TLg #[.int .i64 t,.int .i64 k0,.int .i64 tick,.int .i64 te,.int .i64 ce,.int .i64 ot,.int .i64 ep,.int .i64 fr,.int .i64 un,.int .i64 nn]:=by rw [hW1,hg];exact Blk.new _ _ _
    have hgG:¬G1 g:=fun hh=>by have:=hal g hh;omega
    have hS0:=fun V (hf:Fr No W1 V)=>And.intro (HP.out _ (f1.trans (hfa.ah hf) fun _ h=>h.elim)) (kV (x:=⟨t,⟨k0,tick,te,ce,ot,ep,fr,un,nn⟩⟩) (hb1.fr hf id));have hB2:=fun V V' (hf:Fr No W1 V) (hj:Fr G1 V V')=>kV (x:=⟨t,⟨k0,tick,te,ce,ot,ep,fr,un,nn⟩⟩) ((hb1.fr hf id).fr hj hgG);have hfw:=fun V' (hj:eZ false w Fj j (bO s1 (es.take (k+1))) (n+38+128*k+128) V')=>HP.out V' (let ⟨_,_,_,q⟩:=hj;q);simp only at hS0 hB2;clear hx hxm hstep hcs a1 i1 f1 hal hb1 hgG;obtain ⟨wQ,oQ,HW1,HG,HFA,HS0,HB2,HFW⟩:=ae6 happ kg hW1 hg hfa hS0 hB2 hfw;clear happ kg hW1 hg hfa hS0 hB2 hfw
    go_wp2_with fail
    rw [←HG.out,←HW1.out]
    go_region_held3 (fun V=>V.cell? ⟨p,0,none⟩=some (.pointer (some ⟨j,0,none⟩))∧V.cell? ⟨g,0,none⟩=some (.int .i64 t)∧V.cell? ⟨g,1,none⟩=some (.int .i64 k0)∧V.cell? ⟨g,2,none⟩=some (.int .i64 tick)∧V.cell? ⟨g,3,none⟩=some (.int .i64 te)∧V.cell? ⟨g,4,none⟩=some (.int .i64 ce)∧V.cell? ⟨g,5,none⟩=some (.int .i64 ot)∧V.cell? ⟨g,6,none⟩=some (.int .i64 ep)∧V.cell? ⟨g,7,none⟩=some (.int .i64 fr)∧V.cell? ⟨g,8,none⟩=some (.int .i64 un)∧V.cell? ⟨g,9,none⟩=some (.int .i64 nn)) (first|exact ⟨p0r,e0,e1,e2,e3,e4,e5,e6,e7,e8,e9⟩|exact HS0.out _ frz) (first
     |(go_at_call 86;refine (wQ.out _ (HFA.out.ah frz)).mono ?_;rintro e w5 ⟨rfl,j5⟩;obtain ⟨e0,e1,e2,e3,e4,e5,e6,e7,e8,e9⟩:=HB2.out _ _ frz (let ⟨_,_,_,q⟩:=j5;q);have T5:=O (oQ.out _ _ (HFA.out.ah frz) j5);have p0r:=HFW.out _ T5.out;clear j5))
    clear e0 e1 e2 e3 e4 e5 e6 e7 e8 e9
    go_wp2_with fail
    go_roundw
    case rel=>exact ⟨k+1,by omega,by go_num,T5.out.more oy⟩
    case measure=>simp [intOf];omega
   ·obtain rfl:k=es.length:=by omega
    have u1:decide (es.length<es.length)=false:=by simp
    rw [List.take_length] at a1;have hsy:=zB a1;have hend:=fun W (hj:eZ true wr G1 j (bO s1 es) (n+38+128*es.length) W)=>bS.out W ((eZ.then f1 i1 hj).more oy);clear a1 i1 f1;obtain ⟨HSY,dZ⟩:=aO hsy hend;clear hsy hend
    go_wp2_with fail
    refine HSY.out.mono ?_;rintro e w6 ⟨rfl,j6⟩;have T6:=O (dZ.out _ j6);clear j6
    go_wp2_with fail
    go_end0
    exact ⟨rfl,T6.out⟩
end
end
end Go.Proofs.YtjnfmfmglehmbaaGreat
