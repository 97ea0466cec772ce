/-
  The leader of a tenant's home: Acknowledge.
-/
import Derived.Test.YtodkhcbjpodgeaaGreatG30
namespace Go.Proofs.YtodkhcbjpodgeaaGreat
open Go.ChangeShapes Go.WideShapes Go.ChangeAt Go.RowKit
set_option linter.unusedVariables false
set_option maxRecDepth 100000
set_option maxHeartbeats 4000000
section
set_option linter.unusedSimpArgs false
variable {w w' :World}{F G:Nat→Prop}
theorem lq {m r n c:Nat}{D:DataW Unit}{left:Lit→Bool}(h:w.ranges Tryz.prog TI_ pR m r n D left c)(k:Nat):(w.drewN k).ranges Tryz.prog TI_ pR m r n D left c:=h
theorem anz {l m:Nat}{ep lag ak ak' :Int}{D:DataW Unit}(f1:F l)(f2:F m)(hne:l≠m)(hz:Maps.size D≤4){V:World}(hV:Fr No w V)(hb:Blk V l TLd #[.int .i64 ep,.int .i64 lag,.int .i64 ak,.map (some m)])(ho:V.ownsMap Tryz.prog TI_ pR m (Maps.size D) D):
  aL (V.setCell ⟨l,2,none⟩ (.int .i64 ak')) F l ep lag ak' D∧Fr F w (V.setCell ⟨l,2,none⟩ (.int .i64 ak')):=by
 have hs:Fr (fun i=>i=l) V (V.setCell ⟨l,2,none⟩ (.int .i64 ak')):=(Fr.refl (fun i=>i=l) V).setCell (p:=⟨l,2,none⟩) (.inl rfl) _;exact ⟨⟨m,f1,f2,Blk.cv (hb.aC 2 _) (by simp),fG ho hs (fun e=>hne e.symm),hz⟩,(hV.mono fun _ h=>h.elim:Fr F w V).setCell (.inl f1) _⟩
set_option maxHeartbeats 8000000 in
theorem nJ {l:Nat}{ep lag ak:Int}{D:DataW Unit}(h:aL w F l ep lag ak D)(n:Nat)(hn:n≤4096)(ayp: -1≤lag):
  Calls Tryz.prog 58 #[.pointer (some ⟨l,0,none⟩),.int .i64 (n:Int)] w fun e w' =>∃ak',e= .returned (.int .i64 ak')∧ak≤ak'∧ak'≤max ak n∧aL w' F l ep lag ak' D∧Fr F w w' :=by
 obtain ⟨m,f1,f2,hne,hz4,hp⟩:=h.parts;have hown:=(hp w (Fr.refl _ _)).2;have hblk:=fun V (hV:Fr No w V)=>(hp V hV).1;have hfin:=fun (V:World) (ak' :Int) (hV:Fr No w V)=>anz (ak' :=ak') f1 f2 hne hz4 hV (hp V hV).1 (hp V hV).2;have hkeep:=fun (V:World) (hV:Fr No w V)=>(⟨h.fr hV (fun _ _ h=>h),hV.mono fun _ h=>h.elim⟩:aL V F l ep lag ak D∧Fr F w V);have d1:decide ((n:Int)<0)=false:=dff;have d2:decide (4096<(n:Int))=false:=dff;obtain ⟨c0,c1,c2,c3⟩:=fJ (hblk w (Fr.refl _ _));have z2:=(hblk w (Fr.refl _ _)).frozen 2;have hlw:l<w.heap.size:=(hblk w (Fr.refl _ _)).lt;clear h hp hne hz4
 by_cases hl1:lag= -1
 ·subst hl1
  obtain ⟨eu,apf,agt⟩:=bC hfin hblk hkeep;clear hkeep;clear hfin hblk hown
  go_in
  go_wp2_with fail
  all_goals go_ret
  all_goals exact ⟨_,rfl,by omega,by omega,eu.out w _ (Fr.refl _ _)⟩
 ·have d3:decide (0≤lag)=true:=dtt
  have d4:(lag == -1)=false:=by simpa using hl1
  obtain ⟨eu,apf,agt⟩:=bC hfin hblk hkeep;clear hkeep;clear hfin hblk
  go_in
  go_wp2_with (first
   |(at_range;refine wpList_range_own _ rfl _ aku rfl TI_ TPg (Maps.int_keyed Tryz.underlying3) Tryz.underlying151 _ m _ _ rfl hown ?_;intro w0 hrg0 hg0 hs0)
   |go_in)
  go_frame
  clear c0 c1 c2 c3 z2;have HF0:=O ((Fr.refl No w).grown hg0 (fun k hk=>by cases hk));obtain ⟨r,hr⟩:∃r,r=w.heap.size:=⟨_,rfl⟩;have HR:=O hr;rw [←hr] at hrg0 ⊢;have HRG:=O hrg0;clear hown hg0 hs0 hrg0 hr
  go_loopw [1,5] (fun a b wr=>∃(left:Lit→Bool) (cnt:Nat) (x:Int) (q:Bool),a= .int .i64 x∧x≤n∧b= .bool q∧wr.ranges Tryz.prog TI_ pR m r (Maps.size D) D left cnt∧Fr No w wr) (fun _ _ wr=>wr.rangeLeft m r)
  case atStart=>exact ⟨_,_,_,_,rfl,by omega,rfl,HRG.out,HF0.out⟩
  case round=>
   obtain ⟨left,cnt,x,q,rfl,hx,rfl,hrg,hfr⟩:=hrel;have HFR:=O hfr;clear hfr
   go_wp2_with (first
    |(at_next;refine wpList_next_ranges _ rfl _ rfl TI_ (Maps.int_keyed Tryz.underlying3) pR (Value.int .i64) (fun p:Pg=> .agg #[.bool p.rq,.int .i64 p.ap,.int .i64 p.nx]) (fun key kl hkey=>by obtain ⟨x,rfl,_⟩:=Maps.keyOf_int_inv Tryz.underlying3 hkey;exact ⟨x,rfl⟩) (fun v y hv=>by obtain ⟨p,rfl,_⟩:=aa0 (d:=y.1) (q:=y.2) hv;exact ⟨p,rfl⟩) m r _ _ _ _ rfl hrg ?_ ?_)
    |go_in)
   ·intro _ hl0
    clear hl0;obtain ⟨c0,c1,c2,c3⟩:=fJ (apf.out wr HFR.out);have z2:=(apf.out wr HFR.out).frozen 2;clear hrg
    cases q
    ·go_wp2_with fail
     all_goals go_ret
     all_goals exact ⟨_,rfl,Int.le_refl _,by omega,agt.out wr HFR.out⟩
    ·go_wp2_with fail
     all_goals go_ret
     all_goals exact ⟨_,rfl,(by (repeat split)<;>omega),(by (repeat split)<;>omega),eu.out wr _ HFR.out⟩
   ·intro y p kl d_ ps_ w1 cnt1 hky hlk hpr hat hrg1 hlt hg1 hs1 hen
    have aow:=HFR.out.grown hg1 (fun k hk=>by cases hk;exact .inr (by rw [HR.out];exact Nat.le_refl _));obtain ⟨c0,c1,c2,c3⟩:=fJ (apf.out w1 aow);have aym:l<w1.heap.size:=nll hlw aow.size;obtain ⟨ao7,au6,HLT,HF1⟩:=fV hrg1 hrg hlt aow;obtain ⟨prq,pap,pnx⟩:=p;simp only at hen;clear hky hlk hpr hat hrg1 hlt hg1 hs1 hrg aow
    cases prq
    ·go_wp2_with fail
     go_roundw
     case rel=>exact ⟨_,_,x,q,rfl,hx,rfl,ao7.out.alloc _,HF1.out.alloc _⟩
     case measure=>rw [(ao7.out.alloc _).left_eq,au6.out.left_eq];exact HLT.out
    ·go_upto_region 10 with fail
     go_quiet (fail)
     all_goals (try go_wp2_with fail)
     all_goals go_roundw
     case rel=>exact ⟨_,_,_,true,rfl,(by (repeat split)<;>omega),rfl,lq (ao7.out.alloc _) _,(HF1.out.alloc _).drewN _⟩
     case measure=>rw [(lq (ao7.out.alloc _) _).left_eq,au6.out.left_eq];exact HLT.out
end
section
set_option linter.unusedSimpArgs false
abbrev fU:TypeId:=68
abbrev aj3:TypeId:=146
abbrev aj4:TypeId:=147
abbrev qL:TypeId:=23
abbrev pG:TypeId:=69
abbrev aT (lab:Nat→Option Nat)(k:Nat):Nat→Prop:=fun b=>lab b=some k
def hdV (l:List Hd):List Value:=l.flatMap fun a=>[.int .i64 a.ep,.int .i64 a.ap,.bool a.ok]
theorem ajs (l:List Hd):(hdV l).length=l.length*3:=by
 induction l with
 |nil=>rfl
 |cons a l ih=>simp only [hdV,List.flatMap_cons,List.length_append,List.length_cons,List.length_nil] at ih ⊢;omega
theorem afo (l:List Hd)(a:Hd):hdV (l++[a])=hdV l++[.int .i64 a.ep,.int .i64 a.ap,.bool a.ok]:=by simp [hdV]
def shC (m:Sh)(v:Value):List Value:=[.int .i64 m.ep,.int .i64 m.sq,.int .i64 m.bf,v]
def shV:List Sh→List Value→List Value
 |m :: l,v :: vs=>shC m v++shV l vs
 |_,_=>[]
theorem aaj:∀(l:List Sh) (vs:List Value),vs.length=l.length→(shV l vs).length=l.length*4:=by
 intro l
 induction l with
 |nil=>intro vs _;cases vs<;>rfl
 |cons m l ih=>
  intro vs h
  cases vs with
  |nil=>simp at h
  |cons v vs=>
   have:=ih vs (by simpa using h);simp only [shV,shC,List.length_append,List.length_cons,List.length_nil,this]
   omega
theorem aeg:∀(l:List Sh) (vs:List Value) (m:Sh) (v:Value),vs.length=l.length→shV (l++[m]) (vs++[v])=shV l vs++shC m v:=by
 intro l
 induction l with
 |nil=>intro vs m v h;cases vs with|nil=>simp [shV]|cons a b=>simp at h
 |cons a l ih=>
  intro vs m v h
  cases vs with
  |nil=>simp at h
  |cons b vs=>
   simp only [List.cons_append,shV,ih vs m v (by simpa using h),List.append_assoc]
theorem iY:∀(l:List Sh) (vs:List Value) (i j:Nat) (m:Sh) (v:Value),l[i]? =some m→vs[i]? =some v→j<4→(shV l vs)[i*4+j]? =(shC m v)[j]? :=by
 intro l
 induction l with
 |nil=>intro vs i j m v h;simp at h
 |cons a l ih=>
  intro vs i j m v h hv hj
  cases vs with
  |nil=>simp at hv
  |cons b vs=>
   simp only [shV];have hl:(shC a b).length=4:=rfl
   cases i with
   |zero=>
    simp at h hv
    subst h hv;rw [Nat.zero_mul,Nat.zero_add,List.getElem?_append_left oy]
   |succ i=>
    rw [List.getElem?_append_right oy,hl,show (i+1)*4+j-4=i*4+j from by omega];exact ih vs i j m v (by simpa using h) (by simpa using hv) hj
theorem uP:∀(l:List Hd) (i j:Nat) (a:Hd),l[i]? =some a→j<3→(hdV l)[i*3+j]? =([.int .i64 a.ep,.int .i64 a.ap,.bool a.ok]:List Value)[j]? :=by
 intro l
 induction l with
 |nil=>intro i j a h;simp at h
 |cons b l ih=>
  intro i j a h hj;simp only [hdV,List.flatMap_cons]
  cases i with
  |zero=>
   simp at h
   subst h;rw [Nat.zero_mul,Nat.zero_add,List.getElem?_append_left (by simp;omega)]
  |succ i=>
   rw [List.getElem?_append_right (by simp;omega)];have:=ih i j a (by simpa using h) hj;simp only [hdV] at this;rw [←this]
   congr 1
   simp
   omega
structure PM where
 q:Nat
 hp:Nat
 l:Nat
 cp:Nat→Nat
 fp:Nat→Nat
 rc:Nat
 cc:Nat
 rf:Nat
 cf:Nat
 rs:Nat
 cs:Nat
 rh:Nat
 ch:Nat
def pp (b:Nat):Value:= .pointer (some ⟨b,0,none⟩)
def prC (M:PM)(P:Pr):List Value:=[pp M.hp,pp M.l,.slice (some ⟨M.rc,0,none⟩) 2 M.cc,.slice (some ⟨M.rf,0,none⟩) 2 M.cf,.slice (some ⟨M.rs,0,none⟩) 2 M.cs,.slice (some ⟨M.rh,0,none⟩) 2 M.ch,.int .i64 (P.nu.getD 0 0),.int .i64 (P.nu.getD 1 0),.int .i64 (P.nu.getD 2 0),.int .i64 (P.nu.getD 3 0),.int .i64 P.dS]
def zC (D:DataW Unit)(pg:Nat→Option Pg):Prop:=∀i,i<2→match pg i with
 |none=>Maps.has D (kI ((i:Int)+1))=false
 |some p=>Maps.has D (kI ((i:Int)+1))=true∧D.atKey (kI ((i:Int)+1)) (pgD pg0)=pgD p
def qG (w:World)(lab:Nat→Option Nat)(i:Nat)(v:Value)(l:List Sh):Prop:=
 ∃vs,vs.length=l.length∧aA w (aT lab (30+i)) TSh 4 v l.length (shV l vs)∧∀(j:Nat) (m:Sh),l[j]? =some m→∃A c,vs[j]? =some (.slice A m.cs.length c)∧aA w (aT lab 50) TCh 8 (.slice A m.cs.length c) m.cs.length (chV m.cs)
structure eH (w:World) (lab:Nat→Option Nat) (M:PM) (P:Pr):Prop where
 lt:∀b j,lab b=some j→b<w.heap.size
 q0:lab M.q=some 0
 blk:Blk w M.q fU (prC M P).toArray
 caps:2≤M.cc∧M.cc≤maxLen∧2≤M.cf∧M.cf≤maxLen∧2≤M.cs∧M.cs≤maxLen∧2≤M.ch∧M.ch≤maxLen
 home:aM w (aT lab 1) M.hp P.home
 lead:∃D,aL w (aT lab 2) M.l P.e P.lag P.ak D∧zC D P.pg
 rc:lab M.rc=some 3∧∀i,i<2→w.cell? ⟨M.rc,i,none⟩=some (pp (M.cp i))
 rf:lab M.rf=some 4∧∀i,i<2→w.cell? ⟨M.rf,i,none⟩=some (pp (M.fp i))
 fo:∀i,i<2→aM w (aT lab (10+i)) (M.cp i) (P.fo i).c
 fb:∀i,i<2→lab (M.fp i)=some (20+i)∧Blk w (M.fp i) TFw #[pp (M.cp i),.int .i64 (P.fo i).seen,.int .i64 (P.fo i).agr]
 rs:lab M.rs=some 5∧∃v:Nat→Value,(∀i,i<2→w.cell? ⟨M.rs,i,none⟩=some (v i)∧w.frozen? ⟨M.rs,i,none⟩=false)∧∀i,i<2→qG w lab i (v i) (P.sh i)
 rh:lab M.rh=some 6∧∃v:Nat→Value,(∀i,i<2→w.cell? ⟨M.rh,i,none⟩=some (v i)∧w.frozen? ⟨M.rh,i,none⟩=false)∧∀i,i<2→aA w (aT lab (40+i)) THd 3 (v i) (P.hd i).length (hdV (P.hd i))
theorem aM.wide {w:World}{F G:Nat→Prop}{p:Nat}{c:Kp}(h:aM w F p c)(hFG:∀i,F i→G i)(hlt:∀i,G i→i<w.heap.size):aM w G p c:=by
 obtain ⟨s,q,t,g,Ah,ch,b,o,n,k⟩:=h.at_;exact ⟨hlt,hFG _ h.fp,s,q,t,g,Ah,ch,b,o.mono hFG,⟨n.1.mono hFG,n.2.1.mono hFG,n.2.2.mono hFG⟩,k.mono hFG⟩
end
section
set_option linter.unusedSimpArgs false
set_option linter.unusedSectionVars false
variable {w w' :World}{lab lab' :Nat→Option Nat}{M:PM}{P:Pr}{G:Nat→Prop}
section
variable (h:eH w lab M P)(hf:Fr G w w')(hl:∀b j,lab b=some j→lab' b=some j)(ht:∀b j,lab' b=some j→b<w'.heap.size)
include h hf hl ht
theorem eH.mV (hG:∀b,lab b=some 1→¬G b):aM w' (aT lab' 1) M.hp P.home:=(h.home.fr hf hG).wide (fun b hb=>hl b 1 hb) (fun b hb=>ht b 1 hb)
theorem eH.mU (hG:∀b,lab b=some 2→¬G b):∃D,aL w' (aT lab' 2) M.l P.e P.lag P.ak D∧zC D P.pg:=by
 obtain ⟨D,h1,h2⟩:=h.lead;exact ⟨D,(h1.fr hf hG).mono (fun b hb=>hl b 2 hb),h2⟩
theorem eH.aha (hG:∀b,lab b=some 3→¬G b):lab' M.rc=some 3∧∀i,i<2→w'.cell? ⟨M.rc,i,none⟩=some (pp (M.cp i)):=
 ⟨hl _ _ h.rc.1,fun i hi=>(hf.cell (p:=⟨M.rc,i,none⟩) (h.lt _ _ h.rc.1) (hG _ h.rc.1)).trans (h.rc.2 i hi)⟩
theorem eH.ag9 (hG:∀b,lab b=some 4→¬G b):lab' M.rf=some 4∧∀i,i<2→w'.cell? ⟨M.rf,i,none⟩=some (pp (M.fp i)):=
 ⟨hl _ _ h.rf.1,fun i hi=>(hf.cell (p:=⟨M.rf,i,none⟩) (h.lt _ _ h.rf.1) (hG _ h.rf.1)).trans (h.rf.2 i hi)⟩
theorem eH.ahb {i:Nat}(hi:i<2)(hG:∀b,lab b=some (10+i)→¬G b):aM w' (aT lab' (10+i)) (M.cp i) (P.fo i).c:=((h.fo i hi).fr hf hG).wide (fun b hb=>hl b _ hb) (fun b hb=>ht b _ hb)
theorem eH.ahc {i:Nat}(hi:i<2)(hG:∀b,lab b=some (20+i)→¬G b):lab' (M.fp i)=some (20+i)∧Blk w' (M.fp i) TFw #[pp (M.cp i),.int .i64 (P.fo i).seen,.int .i64 (P.fo i).agr]:=
 ⟨hl _ _ (h.fb i hi).1,(h.fb i hi).2.fr hf (hG _ (h.fb i hi).1)⟩
theorem eH.mW (hG:∀b,lab b=some 0→¬G b):lab' M.q=some 0∧Blk w' M.q fU (prC M P).toArray:=⟨hl _ _ h.q0,h.blk.fr hf (hG _ h.q0)⟩
theorem qG.k {i:Nat}{v:Value}{l:List Sh}(hs:qG w lab i v l)(hG:∀b,lab b=some (30+i)→¬G b)(hG2:∀b,lab b=some 50→¬G b):qG w' lab' i v l:=by
 obtain ⟨vs,h1,h2,h3⟩:=hs;refine ⟨vs,h1,(h2.frF hf hG).mono (fun b hb=>hl b _ hb),fun j m hj=> ?_⟩;obtain ⟨A,c,e,o⟩:=h3 j m hj;exact ⟨A,c,e,(o.frF hf hG2).mono (fun b hb=>hl b _ hb)⟩
theorem eH.ajf (h5:∀b,lab b=some 5→¬G b)(h3:∀b i,lab b=some (30+i)→(i<2∨i=20)→¬G b):lab' M.rs=some 5∧∃v:Nat→Value,(∀i,i<2→w'.cell? ⟨M.rs,i,none⟩=some (v i)∧w'.frozen? ⟨M.rs,i,none⟩=false)∧∀i,i<2→qG w' lab' i (v i) (P.sh i):=by
 obtain ⟨e,v,h1,h2⟩:=h.rs;refine ⟨hl _ _ e,v,fun i hi=>⟨(hf.cell (p:=⟨M.rs,i,none⟩) (h.lt _ _ e) (h5 _ e)).trans (h1 i hi).1,(hf.frozen (p:=⟨M.rs,i,none⟩) (h.lt _ _ e) (h5 _ e)).trans (h1 i hi).2⟩,fun i hi=>qG.k h hf hl ht (h2 i hi) (fun b hb=>h3 b i hb (.inl hi)) (fun b hb=>h3 b 20 hb (.inr rfl))⟩
theorem eH.ajg (h6:∀b,lab b=some 6→¬G b)(h4:∀b i,lab b=some (40+i)→i<2→¬G b):lab' M.rh=some 6∧∃v:Nat→Value,(∀i,i<2→w'.cell? ⟨M.rh,i,none⟩=some (v i)∧w'.frozen? ⟨M.rh,i,none⟩=false)∧∀i,i<2→aA w' (aT lab' (40+i)) THd 3 (v i) (P.hd i).length (hdV (P.hd i)):=by
 obtain ⟨e,v,h1,h2⟩:=h.rh;exact ⟨hl _ _ e,v,fun i hi=>⟨(hf.cell (p:=⟨M.rh,i,none⟩) (h.lt _ _ e) (h6 _ e)).trans (h1 i hi).1,(hf.frozen (p:=⟨M.rh,i,none⟩) (h.lt _ _ e) (h6 _ e)).trans (h1 i hi).2⟩,fun i hi=>((h2 i hi).frF hf (fun b hb=>h4 b i hb hi)).mono (fun b hb=>hl b _ hb)⟩
end
def bP (w:World)(lab:Nat→Option Nat)(M:PM)(P:Pr)(w' :World):Prop:=∃lab',eH w' lab' M P∧(∀b,b<w.heap.size→lab' b=lab b)∧Fr (fun b=>lab b≠none) w w'
theorem eH.still (h:eH w lab M P)(hf:Fr No w w'):eH w' lab M P:=by
 have ht:∀b j,lab b=some j→b<w'.heap.size:=fun b j hb=>nll (h.lt b j hb) hf.size;have hn:∀b j,lab b=some j→¬No b:=fun _ _ _ h=>h;have hi:∀b j,lab b=some j→lab b=some j:=fun _ _ h=>h;exact ⟨ht,h.q0,(h.mW hf hi ht (fun b hb=>hn b _ hb)).2,h.caps,h.mV hf hi ht (fun b hb=>hn b _ hb),h.mU hf hi ht (fun b hb=>hn b _ hb),h.aha hf hi ht (fun b hb=>hn b _ hb),h.ag9 hf hi ht (fun b hb=>hn b _ hb),fun i k=>h.ahb hf hi ht k (fun b hb=>hn b _ hb),fun i k=>h.ahc hf hi ht k (fun b hb=>hn b _ hb),h.ajf hf hi ht (fun b hb=>hn b _ hb) (fun b i hb _=>hn b _ hb),h.ajg hf hi ht (fun b hb=>hn b _ hb) (fun b i hb _=>hn b _ hb)⟩
theorem eH.self (h:eH w lab M P)(hf:Fr No w w'):bP w lab M P w' :=⟨lab,h.still hf,fun _ _=>rfl,hf.mono fun _ h=>h.elim⟩
theorem bP.then {w1:World}{Q R:Pr}(hlt:∀b j,lab b=some j→b<w.heap.size)(h:bP w lab M Q w1)(k:∀cZ,eH w1 cZ M Q→bP w1 cZ M R w'):bP w lab M R w' :=by
 obtain ⟨l1,a1,e1,f1⟩:=h;obtain ⟨l2,a2,e2,f2⟩:=k l1 a1;refine ⟨l2,a2,fun b hb=>(e2 b (nll hb f1.size)).trans (e1 b hb),f1.trans f2 fun b hb=> ?_⟩
 rcases Nat.lt_or_ge b w.heap.size with h|h
 ·rw [e1 b h] at hb;exact .inl hb
 ·exact .inr h
noncomputable def abd (n:Nat) (lab:Nat→Option Nat) (F:Nat→Prop) (k:Nat):Nat→Option Nat:=fun b=>if b<n then lab b else by
 classical
 exact if F b then some k else none
theorem gT {n:Nat}{F:Nat→Prop}{k b:Nat}(h:b<n):abd n lab F k b=lab b:=if_pos h
theorem ql {n:Nat}{F:Nat→Prop}{k b:Nat}(h:¬b<n)(hF:F b):abd n lab F k b=some k:=by
 unfold abd;rw [if_neg h];exact if_pos hF
theorem qm {n:Nat}{F:Nat→Prop}{k b j:Nat}(h:abd n lab F k b=some j):(b<n∧lab b=some j)∨(¬b<n∧F b∧j=k):=by
 unfold abd at h
 by_cases hb:b<n
 ·rw [if_pos hb] at h;exact .inl ⟨hb,h⟩
 ·rw [if_neg hb] at h
  by_cases hF:F b
  ·rw [if_pos hF] at h
   exact .inr ⟨hb,hF,by injection h with h;exact h.symm⟩
  ·rw [if_neg hF] at h;cases h
theorem neK {j k:Nat}(h:j≠k):∀b,lab b=some j→¬aT lab k b:=fun b hj hk=>h (Option.some.inj (hj.symm.trans hk))
theorem eH.ajm (h:eH w lab M P){c:Kp}(hc:CTo w (aT lab 1) M.hp c w'):bP w lab M {P with home:=c} w' :=by
 obtain ⟨F',k,hs,hf⟩:=hc;have hi:∀b j,lab b=some j→abd w.heap.size lab F' 1 b=some j:=fun b j hb=>(gT (h.lt b j hb)).trans hb;have ht:∀b j,abd w.heap.size lab F' 1 b=some j→b<w'.heap.size:=fun b j hb=>by
  rcases qm hb with ⟨h1,h2⟩|⟨h1,h2,_⟩
  ·exact nll h1 hf.size
  ·exact k.lt b h2
 refine ⟨_,⟨ht,(h.mW hf hi ht (neK dcd)).1,(h.mW hf hi ht (neK dcd)).2,h.caps,k.wide (fun b hb=> ?_) (fun b hb=>ht b 1 hb),h.mU hf hi ht (neK dcd),h.aha hf hi ht (neK dcd),h.ag9 hf hi ht (neK dcd),fun i q=>h.ahb hf hi ht q (neK oy),fun i q=>h.ahc hf hi ht q (neK oy),h.ajf hf hi ht (neK dcd) (fun b i hb _=>neK oy b hb),h.ajg hf hi ht (neK dcd) (fun b i hb _=>neK oy b hb)⟩,fun b hb=>gT hb,hf.mono fun b hb=>by
  have hb:lab b=some 1:=hb;rw [hb];exact fun e=>by cases e⟩
 rcases Nat.lt_or_ge b w.heap.size with hlt|hge
 ·rcases hs b hb with q|q
  ·exact (gT hlt).trans q
  ·omega
 ·exact ql oy hb
theorem eH.jJ (h:eH w lab M P){ak:Int}{D:DataW Unit}{pg:Nat→Option Pg}(hk:aL w' (aT lab 2) M.l P.e P.lag ak D)(hr:zC D pg)(hf:Fr (aT lab 2) w w'):bP w lab M {P with ak:=ak,pg:=pg} w' :=by
 have hi:∀b j,lab b=some j→lab b=some j:=fun b j hb=>hb;have ht:∀b j,lab b=some j→b<w'.heap.size:=fun b j hb=>nll (h.lt b j hb) hf.size;exact ⟨lab,⟨ht,h.q0,(h.mW hf hi ht (neK dcd)).2,h.caps,h.mV hf hi ht (neK dcd),⟨D,hk,hr⟩,h.aha hf hi ht (neK dcd),h.ag9 hf hi ht (neK dcd),fun i q=>h.ahb hf hi ht q (neK oy),fun i q=>h.ahc hf hi ht q (neK oy),h.ajf hf hi ht (neK dcd) (fun b i hb _=>neK oy b hb),h.ajg hf hi ht (neK dcd) (fun b i hb _=>neK oy b hb)⟩,fun b hb=>rfl,hf.mono fun b hb=>by
  have hb:lab b=some 2:=hb;rw [hb];exact fun e=>by cases e⟩
end
section
set_option linter.unusedSimpArgs false
set_option linter.unusedSectionVars false
variable {w w' :World}{lab lab' :Nat→Option Nat}{M:PM}{P:Pr}{G:Nat→Prop}
theorem eH.ah7 (h:eH w lab M P){i:Nat}(hi:i<2){s a:Int}{c:Kp}(hk:iV w (aT lab (10+i)) (M.fp i) (M.cp i) s a c w'):bP w lab M {P with fo:=fD P.fo i ⟨c,s,a⟩} w' :=by
 obtain ⟨hb,F',k,hs,hf⟩:=hk;have e20:=(h.fb i hi).1;have hG:∀{j:Nat},j≠10+i→j≠20+i→∀b,lab b=some j→¬(aT lab (10+i) b∨b=M.fp i):=fun h1 h2 b hj hk=>by
  rcases hk with e|e
  ·exact h1 (Option.some.inj (hj.symm.trans e))
  ·rw [e,e20] at hj;exact h2 (Option.some.inj hj).symm
 have hl:∀b j,lab b=some j→abd w.heap.size lab F' (10+i) b=some j:=fun b j hb=>(gT (h.lt b j hb)).trans hb;have ht:∀b j,abd w.heap.size lab F' (10+i) b=some j→b<w'.heap.size:=fun b j hb=>by
  rcases qm hb with ⟨h1,h2⟩|⟨h1,h2,_⟩
  ·exact nll h1 hf.size
  ·exact k.lt b h2
 refine ⟨_,⟨ht,(h.mW hf hl ht (hG oy oy)).1,(h.mW hf hl ht (hG oy oy)).2,h.caps,h.mV hf hl ht (hG oy oy),h.mU hf hl ht (hG oy oy),h.aha hf hl ht (hG oy oy),h.ag9 hf hl ht (hG oy oy),fun j q=> ?_,fun j q=> ?_,h.ajf hf hl ht (hG oy oy) (fun b j hb _=>hG oy oy b hb),h.ajg hf hl ht (hG oy oy) (fun b j hb _=>hG oy oy b hb)⟩,fun b hb=>gT hb,hf.mono fun b hb=>by
  rcases hb with e|e
  ·have e:lab b=some (10+i):=e
   rw [e];exact fun e=>by cases e
  ·rw [e,e20];exact fun e=>by cases e⟩
 ·by_cases hj:j=i
  ·subst hj
   refine aM.wide (F:=F') ?_ (fun b hb=> ?_) (fun b hb=>ht b _ hb)
   ·show aM w' F' (M.cp j) (fD P.fo j ⟨c,s,a⟩ j).c
    rw [upd_same];exact k
   rcases Nat.lt_or_ge b w.heap.size with hlt|hge
   ·rcases hs b hb with q|q
    ·exact (gT hlt).trans q
    ·omega
   ·exact ql oy hb
  ·show aM w' _ (M.cp j) (fD P.fo i ⟨c,s,a⟩ j).c
   rw [aF _ _ hj];exact h.ahb hf hl ht q (hG oy oy)
 ·by_cases hj:j=i
  ·subst hj
   show _∧Blk w' (M.fp j) TFw #[pp (M.cp j),.int .i64 (fD P.fo j ⟨c,s,a⟩ j).seen,.int .i64 (fD P.fo j ⟨c,s,a⟩ j).agr]
   rw [upd_same];exact ⟨hl _ _ e20,hb⟩
  ·show _∧Blk w' (M.fp j) TFw #[pp (M.cp j),.int .i64 (fD P.fo i ⟨c,s,a⟩ j).seen,.int .i64 (fD P.fo i ⟨c,s,a⟩ j).agr]
   rw [aF _ _ hj];exact h.ahc hf hl ht q (hG oy oy)
theorem eH.oD (h:eH w lab M P){nu:List Int}{ac:Int}(hb:Blk w' M.q fU (prC M {P with nu:=nu,dS:=ac}).toArray)(hf:Fr (fun b=>b=M.q) w w'):bP w lab M {P with nu:=nu,dS:=ac} w' :=by
 have hG:∀{j:Nat},j≠0→∀b,lab b=some j→¬b=M.q:=fun h1 b hj e=>by
  rw [e,h.q0] at hj;exact h1 (Option.some.inj hj).symm
 have hl:∀b j,lab b=some j→lab b=some j:=fun b j hb=>hb;have ht:∀b j,lab b=some j→b<w'.heap.size:=fun b j hb=>nll (h.lt b j hb) hf.size;exact ⟨lab,⟨ht,h.q0,hb,h.caps,h.mV hf hl ht (hG dcd),h.mU hf hl ht (hG dcd),h.aha hf hl ht (hG dcd),h.ag9 hf hl ht (hG dcd),fun i q=>h.ahb hf hl ht q (hG oy),fun i q=>h.ahc hf hl ht q (hG oy),h.ajf hf hl ht (hG dcd) (fun b j hb _=>hG oy b hb),h.ajg hf hl ht (hG dcd) (fun b j hb _=>hG oy b hb)⟩,fun b hb=>rfl,hf.mono fun b hb=>by rw [hb,h.q0];exact fun e=>by cases e⟩
end
section
set_option linter.unusedSimpArgs false
set_option linter.unusedSectionVars false
variable {w w' :World}{lab lab' :Nat→Option Nat}{M:PM}{P:Pr}{G:Nat→Prop}
theorem eH.ajr (h:eH w lab M P){i:Nat}(hi:i<2){a:Hd}{v' :Value}
  (ho:aA w' (fun b=>lab b=some (40+i)∨(b=w.heap.size∧b<w'.heap.size)) THd 3 v' ((P.hd i).length+1) (hdV (P.hd i++[a])))
  (hf:Fr (fun b=>lab b=some (40+i)∨b=M.rh) w w')
  (hc:∀j,j<2→w'.cell? ⟨M.rh,j,none⟩=(if j=i then some v' else w.cell? ⟨M.rh,j,none⟩)∧w'.frozen? ⟨M.rh,j,none⟩=false):
  bP w lab M {P with hd:=fD P.hd i (P.hd i++[a])} w' :=by
 have e6:=h.rh.1;have hG:∀{j:Nat},j≠40+i→j≠6→∀b,lab b=some j→¬(lab b=some (40+i)∨b=M.rh):=fun h1 h2 b hj hk=>by
  rcases hk with e|e
  ·exact h1 (Option.some.inj (hj.symm.trans e))
  ·rw [e,e6] at hj;exact h2 (Option.some.inj hj).symm
 let F' :Nat→Prop:=fun b=>b=w.heap.size∧b<w'.heap.size
 have hl:∀b j,lab b=some j→abd w.heap.size lab F' (40+i) b=some j:=fun b j hb=>(gT (h.lt b j hb)).trans hb;have ht:∀b j,abd w.heap.size lab F' (40+i) b=some j→b<w'.heap.size:=fun b j hb=>by
  rcases qm hb with ⟨h1,h2⟩|⟨h1,h2,_⟩
  ·exact nll h1 hf.size
  ·exact h2.2
 obtain ⟨_,v,hv1,hv2⟩:=h.rh;refine ⟨_,⟨ht,(h.mW hf hl ht (hG oy oy)).1,(h.mW hf hl ht (hG oy oy)).2,h.caps,h.mV hf hl ht (hG oy oy),h.mU hf hl ht (hG oy oy),h.aha hf hl ht (hG oy oy),h.ag9 hf hl ht (hG oy oy),fun j q=>h.ahb hf hl ht q (hG oy oy),fun j q=>h.ahc hf hl ht q (hG oy oy),h.ajf hf hl ht (hG oy oy) (fun b j hb hj=>hG oy oy b hb),hl _ _ e6,fD v i v',fun j q=>⟨?_,(hc j q).2⟩,fun j q=> ?_⟩,fun b hb=>gT hb,hf.mono fun b hb=>by
  rcases hb with e|e
  ·rw [e];exact fun e=>by cases e
  ·rw [e,e6];exact fun e=>by cases e⟩
 ·rw [(hc j q).1]
  by_cases hj:j=i
  ·rw [if_pos hj,hj,upd_same]
  ·rw [if_neg hj,aF _ _ hj];exact (hv1 j q).1
 ·by_cases hj:j=i
  ·subst hj
   show aA w' _ THd 3 (fD v j v' j) (fD P.hd j (P.hd j++[a]) j).length (hdV (fD P.hd j (P.hd j++[a]) j))
   rw [upd_same,upd_same,List.length_append];exact ho.mono fun b hb=>by
    rcases hb with e|e
    ·exact hl b _ e
    ·exact ql (by rw [e.1];omega) e
  ·show aA w' _ THd 3 (fD v i v' j) (fD P.hd i (P.hd i++[a]) j).length (hdV (fD P.hd i (P.hd i++[a]) j))
   rw [aF _ _ hj,aF _ _ hj];exact ((hv2 j q).frF hf (hG oy oy)).mono (fun b hb=>hl b _ hb)
end
section
set_option linter.unusedSimpArgs false
set_option linter.unusedSectionVars false
variable {w w' :World}{lab lab' :Nat→Option Nat}{M:PM}{P:Pr}{G:Nat→Prop}
theorem eH.aik (h:eH w lab M P){i:Nat}(hi:i<2){m:Sh}{v v' :Value}{vs:List Value}{A:Option Addr}{c:Nat}(hvs:vs.length=(P.sh i).length)
  (hold:∀(j:Nat) (m:Sh),(P.sh i)[j]? =some m→∃A c,vs[j]? =some (.slice A m.cs.length c)∧aA w (aT lab 50) TCh 8 (.slice A m.cs.length c) m.cs.length (chV m.cs))
  {F' K' :Nat→Prop} (hF' :∀b,F' b→w.heap.size≤b∧b<w'.heap.size) (hK' :∀b,K' b→w.heap.size≤b∧b<w'.heap.size∧¬F' b)
  (hm:aA w' F' TCh 8 (.slice A m.cs.length c) m.cs.length (chV m.cs))
  (ho:aA w' (fun b=>lab b=some (30+i)∨K' b) TSh 4 v' ((P.sh i).length+1) (shV (P.sh i) vs++shC m (.slice A m.cs.length c)))
  (hf:Fr (fun b=>lab b=some (30+i)∨b=M.rs) w w')
  (hc:∀j,j<2→w'.cell? ⟨M.rs,j,none⟩=(if j=i then some v' else w.cell? ⟨M.rs,j,none⟩)∧w'.frozen? ⟨M.rs,j,none⟩=false):
  bP w lab M {P with sh:=fD P.sh i (P.sh i++[m])} w' :=by
 have e5:=h.rs.1;have hG:∀{j:Nat},j≠30+i→j≠5→∀b,lab b=some j→¬(lab b=some (30+i)∨b=M.rs):=fun h1 h2 b hj hk=>by
  rcases hk with e|e
  ·exact h1 (Option.some.inj (hj.symm.trans e))
  ·rw [e,e5] at hj;exact h2 (Option.some.inj hj).symm
 obtain ⟨lab',hold',hnF,hnK,hinv⟩:∃lab' :Nat→Option Nat,(∀b,b<w.heap.size→lab' b=lab b)∧(∀b,F' b→lab' b=some 50)∧(∀b,K' b→lab' b=some (30+i))∧(∀b j,lab' b=some j→(b<w.heap.size∧lab b=some j)∨F' b∨K' b):=by
  classical
  refine ⟨fun b=>if b<w.heap.size then lab b else if F' b then some 50 else if K' b then some (30+i) else none,fun b hb=>if_pos hb,fun b hb=> ?_,fun b hb=> ?_,fun b j hb=> ?_⟩
  ·have:=(hF' b hb).1
   show (if b<w.heap.size then lab b else _)=_
   rw [if_neg oy,if_pos hb]
  ·have:=hK' b hb
   show (if b<w.heap.size then lab b else _)=_
   rw [if_neg oy,if_neg this.2.2,if_pos hb]
  ·by_cases h1:b<w.heap.size
   ·exact .inl ⟨h1,by simpa [h1] using hb⟩
   ·by_cases h2:F' b
    ·exact .inr (.inl h2)
    ·by_cases h3:K' b
     ·exact .inr (.inr h3)
     ·simp [h1,h2,h3] at hb
 have hl:∀b j,lab b=some j→lab' b=some j:=fun b j hb=>(hold' b (h.lt b j hb)).trans hb;have ht:∀b j,lab' b=some j→b<w'.heap.size:=fun b j hb=>by
  rcases hinv b j hb with ⟨h1,_⟩|h1|h1
  ·exact nll h1 hf.size
  ·exact (hF' b h1).2
  ·exact (hK' b h1).2.1
 obtain ⟨_,u,hu1,hu2⟩:=h.rs;refine ⟨lab',⟨ht,(h.mW hf hl ht (hG oy oy)).1,(h.mW hf hl ht (hG oy oy)).2,h.caps,h.mV hf hl ht (hG oy oy),h.mU hf hl ht (hG oy oy),h.aha hf hl ht (hG oy oy),h.ag9 hf hl ht (hG oy oy),fun j q=>h.ahb hf hl ht q (hG oy oy),fun j q=>h.ahc hf hl ht q (hG oy oy),⟨hl _ _ e5,fD u i v',fun j q=>⟨?_,(hc j q).2⟩,fun j q=> ?_⟩,h.ajg hf hl ht (hG oy oy) (fun b j hb hj=>hG oy oy b hb)⟩,fun b hb=>hold' b hb,hf.mono fun b hb=>by
  rcases hb with e|e
  ·rw [e];exact fun e=>by cases e
  ·rw [e,e5];exact fun e=>by cases e⟩
 ·rw [(hc j q).1]
  by_cases hj:j=i
  ·rw [if_pos hj,hj,upd_same]
  ·rw [if_neg hj,aF _ _ hj];exact (hu1 j q).1
 ·by_cases hj:j=i
  ·subst hj
   show qG w' lab' j (fD u j v' j) (fD P.sh j (P.sh j++[m]) j)
   rw [upd_same,upd_same];refine ⟨vs++[.slice A m.cs.length c],by simp [hvs],?_,fun k x hk=> ?_⟩
   ·rw [List.length_append,aeg _ _ _ _ hvs]
    exact ho.mono fun b hb=>hb.elim (hl b _) (hnK b)
   ·rcases Nat.lt_or_ge k (P.sh j).length with hlt|hge
    ·rw [List.getElem?_append_left hlt] at hk
     obtain ⟨A2,c2,e2,o2⟩:=hold k x hk;exact ⟨A2,c2,by rw [List.getElem?_append_left oy];exact e2,(o2.frF hf (hG oy oy)).mono (fun b hb=>hl b _ hb)⟩
    ·rw [List.getElem?_append_right hge] at hk
     obtain ⟨e0,rfl⟩:k-(P.sh j).length=0∧m=x:=by
      rcases hz:k-(P.sh j).length with _|n
      ·rw [hz] at hk;exact ⟨rfl,by simpa using hk⟩
      ·rw [hz] at hk;simp at hk
     exact ⟨A,c,by rw [List.getElem?_append_right oy,hvs,e0];rfl,hm.mono fun b hb=>hnF b hb⟩
  ·show qG w' lab' j (fD u i v' j) (fD P.sh i (P.sh i++[m]) j)
   rw [aF _ _ hj,aF _ _ hj];exact qG.k h hf hl ht (hu2 j q) (hG oy oy) (hG oy oy)
end
end Go.Proofs.YtodkhcbjpodgeaaGreat
