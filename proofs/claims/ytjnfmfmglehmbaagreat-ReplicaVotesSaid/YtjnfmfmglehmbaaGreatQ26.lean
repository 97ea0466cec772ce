/-
  The program's replica: a message is handled.
-/
import Derived.Test.YtjnfmfmglehmbaaGreatQ24
import Derived.Test.YtjnfmfmglehmbaaGreatQ25
import Derived.Test.YtjnfmfmglehmbaaGreatQ20
import Derived.Test.YtjnfmfmglehmbaaGreatQ07
namespace Go.Proofs.YtjnfmfmglehmbaaGreat
open Go.ChangeShapes Go.WideShapes Go.ChangeAt Go.RowKit
set_option linter.unusedVariables false
set_option maxRecDepth 100000
set_option maxHeartbeats 4000000
section
theorem aQ.more {w w' :World}{F:Nat→Prop}{p n m:Nat}{x:Rs×List Ms}{e:Ending}(h:aQ w F p x n e w')(hn:n≤m):aQ w F p x m e w' :=by
 obtain ⟨A,c,F',G,h1,h2,h3,h4⟩:=h;exact ⟨A,c,F',G,h1,h2,h3.more hn,h4⟩
theorem aQ.lift {w w1 w' :World}{F F1:Nat→Prop}{p n:Nat}{x:Rs×List Ms}{e:Ending}(hf:Fr F w w1)(hi:∀i,F1 i→F i∨w.heap.size≤i)(h:aQ w1 F1 p x n e w'):aQ w F p x n e w' :=by
 obtain ⟨A,c,F',G,h1,h2,h3,h4,h5,h6,h7⟩:=h;refine ⟨A,c,F',G,h1,h2,h3,fun i hh=> ?_,fun i hh=>Nat.le_trans hf.size (h5 i hh),h6,hf.trans h7 hi⟩
 rcases h4 i hh with q|q
 ·exact hi i q
 ·exact .inr (Nat.le_trans hf.size q)
theorem aQ.after {w w1 w' :World}{F:Nat→Prop}{p n:Nat}{x:Rs×List Ms}{e:Ending}(hf:Fr No w w1)(h:aQ w1 F p x n e w'):aQ w F p x n e w' :=
 aQ.lift (hf.mono fun _ hi=>hi.elim) (fun i hi=> .inl hi) h
theorem uG {r:Rs}{m:Ms}(h:bH r m):r.handle m=(r.meets m.term).takes m:=by
 unfold Rs.handle;rw [if_neg (by rw [Rs.cB.2 h];simp)]
section
variable {w w' :World}{F G:Nat→Prop}{p:Nat}{r:Rs}{s:Js}{n:Nat}
theorem rH (h:RAt w F p r n)(m:Ms)(A:Option Addr)(c:Nat)(hm:bH r m)(hk:m.kind=3)(ht:m.term≤r.js.term)(hE:Ent w G (.slice A m.es.length c) m.es)(hGF:∀i,G i→¬F i)(hes:∀x∈m.es,x.e.ok)(hsz:n+600000≤140737488355328):Calls Tryz.prog 103 #[.pointer (some ⟨p,0,none⟩),m.v (.slice A m.es.length c)] w (aQ w F p (r.aK m) (n+600000)):=by
 by_cases h1:m.term<r.js.term
 ·exact mh h m A c hm hk ht hE hGF hes (.inl h1) hsz
 ·by_cases h2:r.role=3
  ·exact mh h m A c hm hk ht hE hGF hes (.inr (.inl h2)) hsz
  ·by_cases h3:r.fits m=true
   ·exact vQ h m A c hm hk ht hE hGF hes h1 h2 h3 hsz
   ·exact mh h m A c hm hk ht hE hGF hes (.inr (.inr (by simpa using h3))) hsz
theorem yX (h:RAt w F p r n)(m:Ms)(A:Option Addr)(c:Nat)(hm:bH r m)(hk:m.kind=1)(hsz:n+600000≤140737488355328):Calls Tryz.prog 101 #[.pointer (some ⟨p,0,none⟩),m.v (.slice A m.es.length c)] w (aQ w F p (r.takes m) (n+600000)):=by
 have:r.takes m=r.dK m:=by unfold Rs.takes;rw [if_pos hk]
 rw [this];exact (vP h m _ hm oy).mono fun e w' q=>q.more oy
theorem yV (h:RAt w F p r n)(m:Ms)(A:Option Addr)(c:Nat)(hm:bH r m)(hk:m.kind=2)(hsz:n+600000≤140737488355328):Calls Tryz.prog 102 #[.pointer (some ⟨p,0,none⟩),m.v (.slice A m.es.length c)] w (aQ w F p (r.takes m) (n+600000)):=by
 have:r.takes m=r.bW m:=by unfold Rs.takes;rw [if_neg oy,if_pos hk]
 rw [this];exact (uj h m _ hm).mono fun e w' q=>q.more oy
theorem yU (h:RAt w F p r n)(m:Ms)(A:Option Addr)(c:Nat)(hm:bH r m)(hk:m.kind=3)(ht:m.term≤r.js.term)(hE:Ent w G (.slice A m.es.length c) m.es)(hGF:∀i,G i→¬F i)(hes:∀x∈m.es,x.e.ok)(hsz:n+600000≤140737488355328):Calls Tryz.prog 103 #[.pointer (some ⟨p,0,none⟩),m.v (.slice A m.es.length c)] w (aQ w F p (r.takes m) (n+600000)):=by
 have:r.takes m=r.aK m:=by unfold Rs.takes;rw [if_neg oy,if_neg oy,if_pos hk]
 rw [this];exact rH h m A c hm hk ht hE hGF hes hsz
theorem yT (h:RAt w F p r n)(m:Ms)(A:Option Addr)(c:Nat)(hm:bH r m)(hk:m.kind=4)(hsz:n+600000≤140737488355328):Calls Tryz.prog 104 #[.pointer (some ⟨p,0,none⟩),m.v (.slice A m.es.length c)] w (aQ w F p (r.takes m) (n+600000)):=by
 have:r.takes m=r.aR m:=by unfold Rs.takes;rw [if_neg oy,if_neg oy,if_neg oy]
 rw [this];exact (rG h m _ hm).mono fun e w' q=>q.more oy
set_option maxHeartbeats 8000000 in
theorem pz (h:RAt w F p r n)(m:Ms)(A:Option Addr)(c:Nat)(hE:Ent w G (.slice A m.es.length c) m.es)(hGF:∀i,G i→¬F i)(hes:∀x∈m.es,x.e.ok)(hlen:m.es.length≤1000000)(hsz:n+700000≤140737488355328):Calls Tryz.prog 49 #[.pointer (some ⟨p,0,none⟩),m.v (.slice A m.es.length c)] w (aQ w F p (r.handle m) (n+700000)):=by
 have hok:=h.ok;have hle:=h.more (m:=n+700000) oy;have hT:=fun W (hf:Fr No w W)=>iq (h.ak hf).rj;have hstill:=fun W (hf:Fr No w W)=>hle.still hf;have jZ:=fun W (hf:Fr No w W)=>af2 (h.ak hf) m A c (hE.ak hf) hlen;obtain ⟨W0,hW0⟩:∃W0,W0=w.alloc (.cells (m.cells (.slice A m.es.length c)).toArray TMs):=⟨_,rfl⟩;have hf0:Fr No w W0:=by rw [hW0];exact aj _ _
 obtain ⟨g,hg⟩:∃g,g=w.heap.size:=⟨_,rfl⟩;have hb:Blk W0 g TMs (m.cells (.slice A m.es.length c)).toArray:=by rw [hW0,hg];exact Blk.new _ _ _
 have ap8:=hb.lt;have hgF:¬F g:=fun hh=>by have:=h.lt g hh;omega
 have hgp:g≠p:=fun hh=>hgF (hh▸h.lC);have hC:=fun W (hf:Fr No W0 W)=>aL (m:=m) (hb.fr hf id)
 by_cases hp:r.proper m=true
 ·have hm:=Rs.cB.1 hp
  rw [hp] at jZ;rw [uG hm]
  by_cases hlt:r.js.term<m.term
  ·have hmt:r.meets m.term={r with js:=⟨m.term,-1,r.js.log⟩,role:=1}:=by unfold Rs.meets;rw [if_pos hlt]
   have hm1:=hm.kQ m.term;have ht1:=(iG r m.term).1;rw [hmt] at hm1 ht1 ⊢;obtain ⟨-,sj⟩:=fG r.js m.term (-1) (by have:=hm.t0;omega) hm.t1 oy oy (.inl hlt);have alk:bU {r with js:=bC r.js m.term (-1)}:=by
    rw [sj];exact ⟨hok.log.up (by simp only;omega),by simp only;have:=hok.lo;omega,hm.t1,Int.le_refl _,by simp only;omega,hok.idn,hok.five,hok.role,hok.com,hok.vts,hok.nxt,hok.mts⟩
   have jD:=fun W (hf:Fr No w W)=>nL (h.ak hf) m.term (-1) alk oy;rw [sj] at jD;have aaq:=fun V r' N V' (hf:Fr No W0 V) (hr:RTo V F p r' N V')=>RAt.far (h.ak (hf0.ah hf)) (hb.fr hf id) hgF hr;have hEn:=fun V r' N V' (hf:Fr No W0 V) (hr:RTo V F p r' N V')=>((hE.lt.ak (hf0.ah hf)).fr (let ⟨_,_,_,q⟩:=hr;q) fun k hk hh=>hGF k hk.1 hh:Ent V' (fun i=>G i∧i<w.heap.size) (.slice A m.es.length c) m.es);have u1:decide (r.js.term<m.term)=true:=by simpa using hlt
   generalize hTT:r.js.term=tt at*;have hpk:=hm.k
   rcases hpk with hk|hk|hk|hk
   all_goals
    first|have htk:=fun V F1 N (ha:RAt V F1 p {r with js:=⟨m.term,-1,r.js.log⟩,role:=1} N) (hN:N+600000≤140737488355328) (hE2:Ent V (fun i=>G i∧i<w.heap.size) (.slice A m.es.length c) m.es) (hG2:∀i,(G i∧i<w.heap.size)→¬F1 i)=>yU ha m A c hm1 hk ht1 (hE2) hG2 hes hN|have htk:=fun V F1 N (ha:RAt V F1 p {r with js:=⟨m.term,-1,r.js.log⟩,role:=1} N) (hN:N+600000≤140737488355328)=>yX ha m A c hm1 hk hN|have htk:=fun V F1 N (ha:RAt V F1 p {r with js:=⟨m.term,-1,r.js.log⟩,role:=1} N) (hN:N+600000≤140737488355328)=>yV ha m A c hm1 hk hN|have htk:=fun V F1 N (ha:RAt V F1 p {r with js:=⟨m.term,-1,r.js.log⟩,role:=1} N) (hN:N+600000≤140737488355328)=>yT ha m A c hm1 hk hN
    have hfin:=fun V W F1 e W' N (hfw:Fr No w V) (hf:Fr F V W) (hi:∀i,F1 i→F i∨V.heap.size≤i) (hN:N≤n+700000) (q:aQ W F1 p (({r with js:=⟨m.term,-1,r.js.log⟩,role:=1}:Rs).takes m) N e W')=>(aQ.after hfw (aQ.lift (F1:=F1) hf hi (q.more hN)):aQ w F p (({r with js:=⟨m.term,-1,r.js.log⟩,role:=1}:Rs).takes m) (n+700000) e W');generalize hTK:({r with js:=⟨m.term,-1,r.js.log⟩,role:=1}:Rs).takes m=TK at*;obtain ⟨kd,mf,mto,mt,ix,pv,cm,ok,es⟩:=m;simp only [Ms.cells] at hW0 hC aaq;simp only at*;subst hk;obtain ⟨c0,c1,c2,c3,c4,c5,c6,c7,c8⟩:=hC _ (Fr.refl _ _);clear h hok hle hb hp hm hmt hm1 ht1 alk sj hlt hstill hE hTT hTK;have sZ:∀(F1:Nat→Prop) (V:World),Fr No w V→(∀i,F1 i→F i∨V.heap.size≤i)→∀i,(G i∧i<w.heap.size)→¬F1 i:=fun F1 V hf hi i hG hh=>by
     rcases hi i hh with q|q
     ·exact hGF i hG.1 q
     ·have:=hf.size;omega
    have hgN:∀(F1:Nat→Prop) (V:World),Fr No W0 V→(∀i,F1 i→F i∨V.heap.size≤i)→¬F1 g:=fun F1 V hf hi hh=>by
     rcases hi g hh with q|q
     ·exact hgF q
     ·have:=hf.size;omega
    obtain ⟨HT,qZ,HW0,HF0,HG,HC,lW,ag2,HEN,HTK,bS,aex⟩:=gY hT jZ hW0 hf0 hg hC jD aaq hEn htk hfin sZ;obtain ⟨HGN,HES⟩:=aO hgN hes;clear hT jZ hW0 hf0 hg hC jD aaq hEn htk hfin sZ hgN hes
    go_in
    go_wp2_with fail
    rw [←HG.out,←HW0.out];refine (qZ.out _ HF0.out).mono ?_;rintro e w1 ⟨rfl,f1⟩;clear c0 c1 c2 c3 c4 c5 c6 c7 c8;obtain ⟨c0,c1,c2,c3,c4,c5,c6,c7,c8⟩:=HC.out _ f1;have K1:=O f1;clear f1
    go_wp2_with fail
    go_quiet ((go_at_call 12;exact aI (HT.out _ ((HF0.out.ah K1.out).drewN _))))
    replace K1:=O (K1.out.drewN nq);generalize w1.drewN nq=w2 at*;clear c0 c1 c2 c3 c4 c5 c6 c7 c8;obtain ⟨c0,c1,c2,c3,c4,c5,c6,c7,c8⟩:=HC.out _ K1.out
    go_wp2_with fail
    refine (lW.out _ (HF0.out.ah K1.out)).mono ?_;rintro e w3 ⟨rfl,t3⟩;have hb3:=ag2.out _ _ _ _ K1.out t3;have hE3:=HEN.out _ _ _ _ K1.out t3;obtain ⟨F3,a3,i3,f3⟩:=t3;have p3:w3.cell? ⟨p,3,none⟩=some (.int .i64 r.role)∧w3.frozen? ⟨p,3,none⟩=false:=(let ⟨_,_,_,_,_,h1,_⟩:=a3;⟨h1.cell 3,h1.frozen 3⟩);obtain ⟨p3,pf3⟩:=p3;obtain ⟨F4,a4,i4,f4⟩:=a3.lQ;simp only at a4;have hb4:Blk (w3.setCell ⟨p,3,none⟩ (.int .i64 1)) g TMs _:=hb3.aF hgp _;have hE4:Ent (w3.setCell ⟨p,3,none⟩ (.int .i64 1)) _ _ _:=hE3.fr f4 fun k hk hh=>aex.out F3 w2 (HF0.out.ah K1.out) i3 k hk hh;have hi4:∀i,F4 i→F i∨w2.heap.size≤i:=fun i hi=>by
     rcases i4 i hi with q|q
     ·exact i3 i q
     ·exact .inr (Nat.le_trans f3.size q)
    have hf4:Fr F w2 (w3.setCell ⟨p,3,none⟩ (.int .i64 1)):=f3.trans f4 i3;have hG4:=aex.out F4 w2 (HF0.out.ah K1.out) hi4
    first|have hcall:=HTK.out _ _ _ a4 oy hE4 hG4|have hcall:=HTK.out _ _ _ a4 oy
    have adx:=fun e W' q=>bS.out w2 _ F4 e W' (n+48+600000) (HF0.out.ah K1.out) hf4 hi4 oy q;clear a4 i4 f4 i3 f3 hb3 hE3 hE4 hi4 hf4 hG4 a3;clear c0 c1 c2 c3 c4 c5 c6 c7 c8
    first|obtain ⟨c0,c1,c2,c3,c4,c5,c6,c7,c8⟩:=aL (m:=⟨1,mf,mto,mt,ix,pv,cm,ok,es⟩) hb4|obtain ⟨c0,c1,c2,c3,c4,c5,c6,c7,c8⟩:=aL (m:=⟨2,mf,mto,mt,ix,pv,cm,ok,es⟩) hb4|obtain ⟨c0,c1,c2,c3,c4,c5,c6,c7,c8⟩:=aL (m:=⟨3,mf,mto,mt,ix,pv,cm,ok,es⟩) hb4|obtain ⟨c0,c1,c2,c3,c4,c5,c6,c7,c8⟩:=aL (m:=⟨4,mf,mto,mt,ix,pv,cm,ok,es⟩) hb4
    simp only at c0 c1 c2 c3 c4 c5 c6 c7 c8;obtain ⟨dL,ajz,HB4⟩:=bP hcall adx hb4;clear hcall adx hb4
    go_wp2_with fail
    refine dL.out.mono ?_;rintro e w5 q5;have M5:=O (ajz.out _ _ q5);obtain ⟨A5,c5',F5,G5,rfl,-⟩:=q5
    go_wp2_with fail
    go_ret
    exact M5.out
  ·have hmt:r.meets m.term=r:=by unfold Rs.meets;rw [if_neg hlt]
   have ht1:=(iG r m.term).1;rw [hmt] at ht1 ⊢;have u1:decide (r.js.term<m.term)=false:=by simpa using hlt
   have hpk:=hm.k
   rcases hpk with hk|hk|hk|hk
   all_goals
    first|have htk:=fun V (hf:Fr No w V)=>(yU (h.ak hf) m A c hm hk ht1 (hE.ak hf) hGF hes oy).mono fun e w' q=>(aQ.after hf (q.more oy):aQ w F p (r.takes m) (n+700000) e w')|have htk:=fun V (hf:Fr No w V)=>(yX (h.ak hf) m A c hm hk oy).mono fun e w' q=>(aQ.after hf (q.more oy):aQ w F p (r.takes m) (n+700000) e w')|have htk:=fun V (hf:Fr No w V)=>(yV (h.ak hf) m A c hm hk oy).mono fun e w' q=>(aQ.after hf (q.more oy):aQ w F p (r.takes m) (n+700000) e w')|have htk:=fun V (hf:Fr No w V)=>(yT (h.ak hf) m A c hm hk oy).mono fun e w' q=>(aQ.after hf (q.more oy):aQ w F p (r.takes m) (n+700000) e w')
    generalize r.takes m=TK at*;generalize r.js.term=tt at*;obtain ⟨kd,mf,mto,mt,ix,pv,cm,ok,es⟩:=m;simp only [Ms.cells] at hW0 hC;simp only at*;subst hk;obtain ⟨c0,c1,c2,c3,c4,c5,c6,c7,c8⟩:=hC _ (Fr.refl _ _);clear h hok hle hb hp hm hmt ht1 hlt hstill hE hGF hes hgF;obtain ⟨HT,qZ,HW0,HF0,HG,HC,HTK⟩:=nC hT jZ hW0 hf0 hg hC htk;clear hT jZ hW0 hf0 hg hC htk
    go_in
    go_wp2_with fail
    rw [←HG.out,←HW0.out];refine (qZ.out _ HF0.out).mono ?_;rintro e w1 ⟨rfl,f1⟩;clear c0 c1 c2 c3 c4 c5 c6 c7 c8;obtain ⟨c0,c1,c2,c3,c4,c5,c6,c7,c8⟩:=HC.out _ f1;have K1:=O f1;clear f1
    go_wp2_with fail
    go_quiet ((go_at_call 12;exact aI (HT.out _ ((HF0.out.ah K1.out).drewN _))))
    replace K1:=O (K1.out.drewN nq);generalize w1.drewN nq=w2 at*;clear c0 c1 c2 c3 c4 c5 c6 c7 c8;obtain ⟨c0,c1,c2,c3,c4,c5,c6,c7,c8⟩:=HC.out _ K1.out
    go_wp2_with fail
    refine (HTK.out _ (HF0.out.ah K1.out)).mono ?_;rintro e w5 q5;have M5:=O q5;obtain ⟨A5,c5',F5,G5,rfl,-⟩:=q5
    go_wp2_with fail
    go_ret
    exact M5.out
 ·have hp2:r.proper m=false:=by simpa using hp
  have hh:r.handle m=(r,[]):=by unfold Rs.handle;rw [if_pos hp2]
  rw [hp2] at jZ;rw [hh];obtain ⟨c0,c1,c2,c3,c4,c5,c6,c7,c8⟩:=hC _ (Fr.refl _ _);clear hE hC hb hh hp hp2 hok hT h hle hgF;obtain ⟨kd,mf,mto,mt,ix,pv,cm,ok,es⟩:=m;simp only [Ms.cells] at hW0;simp only at*;obtain ⟨bZ,qZ,HW0,HF0,HG⟩:=jr hstill jZ hW0 hf0 hg;clear hstill jZ hW0 hf0 hg
  go_in
  go_wp2_with fail
  rw [←HG.out,←HW0.out];refine (qZ.out _ HF0.out).mono ?_;rintro e w1 ⟨rfl,f1⟩;have F1:=O f1;clear f1
  go_wp2_with fail
  go_ret
  exact aQ.mk' (bZ.out _ (HF0.out.ah F1.out)) (fF.none_ _)
end
end
theorem air:∀(ms:List Ms) (vs:List Value) (i j:Nat) (m:Ms) (v:Value),ms[i]? =some m→vs[i]? =some v→j<9→(msV ms vs)[i*9+j]? =(m.cells v)[j]? :=by
 intro ms
 induction ms with
 |nil=>intro vs i j m v h;simp at h
 |cons x ms ih=>
  intro vs i j m v h1 h2 hj
  rcases vs with _|⟨y,vs⟩
  ·simp at h2
  ·have hl:(x.cells y).length=9:=rfl
   simp only [msV]
   rcases i with _|i
   ·simp at h1 h2
    subst h1 h2;rw [List.getElem?_append_left oy]
    congr 1
    omega
   ·rw [List.getElem?_append_right oy,hl,show (i+1)*9+j-9=i*9+j from by omega]
    exact ih vs i j m v (by simpa using h1) (by simpa using h2) hj
abbrev jH (W:World)(b i:Nat)(m:Ms)(v:Value):Prop:=
 W.cell? ⟨b,i*9,none⟩=some (.int .i64 m.kind)∧W.cell? ⟨b,i*9+1,none⟩=some (.int .i64 m.from_)∧W.cell? ⟨b,i*9+2,none⟩=some (.int .i64 m.to_)∧W.cell? ⟨b,i*9+3,none⟩=some (.int .i64 m.term)∧W.cell? ⟨b,i*9+4,none⟩=some (.int .i64 m.index)∧W.cell? ⟨b,i*9+5,none⟩=some (.int .i64 m.prev)∧W.cell? ⟨b,i*9+6,none⟩=some (.int .i64 m.commit)∧W.cell? ⟨b,i*9+7,none⟩=some (.bool m.ok)∧W.cell? ⟨b,i*9+8,none⟩=some v
theorem gB.at_ {w:World}{Gs Ge:Nat→Prop}{A:Option Addr}{n c:Nat}{ms:List Ms}{vs:List Value}(h:gB w Gs Ge (.slice A n c) ms vs){i:Nat}{m:Ms}(hi:ms[i]? =some m):
  ∃b v,A=some ⟨b,0,none⟩∧b<w.heap.size∧Gs b∧vs[i]? =some v∧Ent w Ge v m.es∧jH w b i m v:=by
 have hlt:=(List.getElem?_eq_some_iff.1 hi).1;obtain ⟨A',c',e,-⟩:=h.own.form;injection e with e1 e2 e3;subst e1 e2 e3;obtain ⟨b,rfl,hb,hF,hc⟩:=h.own.head oy;obtain ⟨v,hv⟩:∃v,vs[i]? =some v:=⟨_,List.getElem?_eq_getElem (by rw [h.len];exact hlt)⟩;have hml:=qA ms vs h.len;have g:=fun j (hj:j<9)=>((hc (i*9+j) oy).trans (air ms vs i j m v hi hv hj):w.cell? ⟨b,i*9+j,none⟩=(m.cells v)[j]?);exact ⟨b,v,rfl,hb,hF,hv,h.each i m v hi hv,g 0 oy,g 1 oy,g 2 oy,g 3 oy,g 4 oy,g 5 oy,g 6 oy,g 7 oy,g 8 oy⟩
theorem bF.at_ {w:World}{G:Nat→Prop}{A:Option Addr}{n c:Nat}{ms:List Ms}(h:bF w G (.slice A n c) ms){i:Nat}{m:Ms}(hi:ms[i]? =some m):
  ∃b v,A=some ⟨b,0,none⟩∧b<w.heap.size∧G b∧Ent w G v m.es∧jH w b i m v:=by
 obtain ⟨Gs,Ge,vs,h1,h2,h3⟩:=h;obtain ⟨b,v,e1,e2,e3,e4,e5,e6⟩:=h1.at_ hi;exact ⟨b,v,e1,e2,h2 b e3,e5.mono h3,e6⟩
theorem bF.len {w:World}{G:Nat→Prop}{A:Option Addr}{n c:Nat}{ms:List Ms}(h:bF w G (.slice A n c) ms):n=ms.length:=by
 obtain ⟨Gs,Ge,vs,h1,h2,h3⟩:=h;obtain ⟨A',c',e,-⟩:=h1.own.form;injection e
theorem jH.ak {w W:World}{b i:Nat}{m:Ms}{v:Value}(h:jH w b i m v)(hb:b<w.heap.size)(hf:Fr No w W):jH W b i m v:=by
 have e:=fun o=>hf.cell (p:=⟨b,o,none⟩) hb id;obtain ⟨h0,h1,h2,h3,h4,h5,h6,h7,h8⟩:=h;exact ⟨(e _).trans h0,(e _).trans h1,(e _).trans h2,(e _).trans h3,(e _).trans h4,(e _).trans h5,(e _).trans h6,(e _).trans h7,(e _).trans h8⟩
theorem aQ.own {w0 w1 w' :World}{F:Nat→Prop}{p n:Nat}{x:Rs×List Ms}{e:Ending}(h:aQ w1 F p x n e w')(hf:Fr No w0 w1)(hN:∀i,F i→w0.heap.size≤i):
  ∃A c F' G,e= .returned (.slice A x.2.length c)∧bF w' G (.slice A x.2.length c) x.2∧RAt w' F' p x.1 n∧(∀i,F' i→w0.heap.size≤i)∧(∀i,G i→w1.heap.size≤i)∧(∀i,F' i→¬G i)∧Fr No w0 w'∧(∀i,F' i→F i∨w1.heap.size≤i)∧Fr F w1 w' :=by
 obtain ⟨A,c,F',G,h1,h2,h3,h4,h5,h6,h7⟩:=h;exact ⟨A,c,F',G,h1,h2,h3,fun i hi=>(h4 i hi).elim (fun q=>hN i q) (fun q=>Nat.le_trans hf.size q),h5,h6,hf.aA h7 hN,h4,h7⟩
theorem iP.own {w0 w1 w' :World}{F:Nat→Prop}{p n:Nat}{x:Rs×List Ms}{X:Int}{e:Ending}(h:iP w1 F p x X n e w')(hf:Fr No w0 w1)(hN:∀i,F i→w0.heap.size≤i):
  ∃A c F' G,e= .returned (.tuple #[.slice A x.2.length c,.int .i64 X])∧bF w' G (.slice A x.2.length c) x.2∧RAt w' F' p x.1 n∧(∀i,F' i→w0.heap.size≤i)∧(∀i,G i→w1.heap.size≤i)∧(∀i,F' i→¬G i)∧Fr No w0 w'∧(∀i,F' i→F i∨w1.heap.size≤i)∧Fr F w1 w' :=by
 obtain ⟨A,c,F',G,h1,h2,h3,h4,h5,h6,h7⟩:=h;exact ⟨A,c,F',G,h1,h2,h3,fun i hi=>(h4 i hi).elim (fun q=>hN i q) (fun q=>Nat.le_trans hf.size q),h5,h6,hf.aA h7 hN,h4,h7⟩
section
abbrev oO:TypeId:=104
abbrev TPR:TypeId:=24
abbrev part (lab:Nat→Option Nat)(k:Nat):Nat→Prop:=fun b=>lab b=some k
def En.cells (e:En):List Value:=[.int .i64 e.kind,.int .i64 e.tick,.int .i64 e.aS,.int .i64 e.cell,.int .i64 e.other,.int .i64 e.epoch,.int .i64 e.from_,.int .i64 e.bA,.int .i64 e.n]
def gV (l:List En):List Value:=l.flatMap En.cells
theorem uL (l:List En):(gV l).length=l.length*9:=by
 unfold gV
 induction l with
 |nil=>rfl
 |cons e l ih=>simp only [List.flatMap_cons,List.length_append,List.length_cons,ih,Nat.succ_mul];simp [En.cells];omega
theorem wB (l:List En)(e:En):gV (l++[e])=gV l++e.cells:=by simp [gV]
theorem uK (e:En):∀u∈e.cells,u.oneCell' =true:=by
 intro u hu;simp only [En.cells,List.mem_cons,List.not_mem_nil,or_false] at hu
 rcases hu with rfl|rfl|rfl|rfl|rfl|rfl|rfl|rfl|rfl<;>rfl
theorem agm:∀(l:List En) (i j:Nat) (e:En),l[i]? =some e→j<9→(gV l)[i*9+j]? =e.cells[j]? :=by
 intro l
 induction l with
 |nil=>intro i j e h;simp at h
 |cons x l ih=>
  intro i j e h hj;have hl:x.cells.length=9:=rfl;simp only [gV,List.flatMap_cons]
  rcases i with _|i
  ·simp at h
   subst h;rw [List.getElem?_append_left oy]
   congr 1
   omega
  ·rw [List.getElem?_append_right oy,hl,show (i+1)*9+j-9=i*9+j from by omega]
   exact ih i j e (by simpa using h) hj
theorem RAt.mono {w:World}{F G:Nat→Prop}{p n:Nat}{r:Rs}(h:RAt w F p r n)(hFG:∀i,F i→G i)(hG:∀i,G i→i<w.heap.size):RAt w G p r n:=by
 obtain ⟨j,Fj,bits,nx,mt,h1,h2,h3,h4,h5,h6,h7⟩:=h;exact ⟨j,Fj,bits,nx,mt,h1,hFG p h2,h3,fun i hi=>hFG i (h4 i hi),h5,hG,h7⟩
theorem gB.wide {w:World}{Gs Ge H:Nat→Prop}{v:Value}{ms:List Ms}{vs:List Value}(h:gB w Gs Ge v ms vs)(hE:∀i,Ge i→H i)(ha:∀i,Gs i→¬H i)(hl:∀i,H i→i<w.heap.size):gB w Gs H v ms vs:=
 ⟨h.own,h.len,fun i m x hm hx=>(h.each i m x hm hx).mono hE,ha,h.ltS,hl⟩
theorem gB.same {w:World}{Gs Ge G H:Nat→Prop}{v:Value}{ms:List Ms}{vs:List Value}(h:gB w Gs Ge v ms vs)(hS:∀i,Gs i→G i)(hE:∀i,Ge i→H i)(ha:∀i,G i→¬H i)(hlS:∀i,G i→i<w.heap.size)(hl:∀i,H i→i<w.heap.size):gB w G H v ms vs:=
 ⟨h.own.mono hS,h.len,fun i m x hm hx=>(h.each i m x hm hx).mono hE,ha,hlS,hl⟩
structure QAt (w:World) (lab:Nat→Option Nat) (z:Nat) (pv:Nat→Nat) (q:Qs) (n:Nat):Prop where
 lt:∀b k,lab b=some k→b<w.heap.size
 mem:∃Ar cr NV DV vs,Blk w z oO #[.slice Ar q.n cr,NV,DV]∧Own w (part lab 1) TPR (.slice Ar q.n cr) ((List.range q.n).map fun i=> .pointer (some ⟨pv i,0,none⟩))∧gB w (part lab 2) (part lab 3) NV q.net vs∧bG w (part lab 4) 49 9 DV q.done.length (gV q.done)
 z0:lab z=some 0
 jN:∀i,i<q.n→RAt w (part lab (10+i)) (pv i) (q.rs i) n
 ok:lu q
section
variable {w w' :World}{lab:Nat→Option Nat}{z n m:Nat}{pv:Nat→Nat}{q:Qs}{F:Nat→Prop}
theorem QAt.fr (h:QAt w lab z pv q n)(hf:Fr F w w')(hd:∀b,F b→lab b=none):QAt w' lab z pv q n:=by
 have hn:∀k b,lab b=some k→¬F b:=fun k b hb hF=>by rw [hd b hF] at hb;cases hb
 obtain ⟨Ar,cr,NV,DV,vs,h1,h2,h3,h4⟩:=h.mem;exact ⟨fun b k hb=>nll (h.lt b k hb) hf.size,⟨Ar,cr,NV,DV,vs,h1.fr hf (hn 0 z h.z0),h2.fr hf (hn 1),h3.fr hf (hn 2) (hn 3),h4.fr' hf fun g hg=>hn 4 g (h4.2 g hg)⟩,h.z0,fun i hi=>(h.jN i hi).fr hf (hn (10+i)),h.ok⟩
theorem QAt.ak (h:QAt w lab z pv q n)(hf:Fr No w w'):QAt w' lab z pv q n:=h.fr hf fun _ hi=>hi.elim
theorem QAt.more (h:QAt w lab z pv q n)(hn:n≤m):QAt w lab z pv q m:=⟨h.lt,h.mem,h.z0,fun i hi=>(h.jN i hi).more hn,h.ok⟩
def QTo (w:World)(lab:Nat→Option Nat)(z:Nat)(pv:Nat→Nat)(q:Qs)(n:Nat)(w' :World):Prop:=
 ∃lab',QAt w' lab' z pv q n∧(∀b,b<w.heap.size→lab' b=lab b)∧Fr (fun b=>lab b≠none) w w'
theorem QAt.self (h:QAt w lab z pv q n):QTo w lab z pv q n w:=⟨lab,h,fun _ _=>rfl,Fr.refl _ _⟩
theorem QAt.still (h:QAt w lab z pv q n)(hf:Fr No w w'):QTo w lab z pv q n w' :=⟨lab,h.ak hf,fun _ _=>rfl,hf.mono fun _ hi=>hi.elim⟩
theorem QTo.then {w1:World}{q1:Qs}(h:QTo w lab z pv q1 m w1)(hlt:∀b k,lab b=some k→b<w.heap.size)(h2:∀aZ,QAt w1 aZ z pv q1 m→QTo w1 aZ z pv q n w'):QTo w lab z pv q n w' :=by
 obtain ⟨aZ,a1,b1,c1⟩:=h;obtain ⟨dG,a2,b2,c2⟩:=h2 aZ a1;refine ⟨dG,a2,fun b hb=>(b2 b (nll hb c1.size)).trans (b1 b hb),c1.trans c2 fun b hb=> ?_⟩
 rcases Nat.lt_or_ge b w.heap.size with hl|hl
 ·rw [b1 b hl] at hb
  exact .inl hb
 ·exact .inr hl
theorem QTo.after {w1:World}(hf:Fr No w w1)(hlt:∀b k,lab b=some k→b<w.heap.size)(h:QTo w1 lab z pv q n w'):QTo w lab z pv q n w' :=by
 obtain ⟨aZ,a1,b1,c1⟩:=h;exact ⟨aZ,a1,fun b hb=>b1 b (nll hb hf.size),(hf.mono (G:=fun b=>lab b≠none) fun _ hi=>hi.elim).trans c1 fun b hb=> .inl hb⟩
theorem QTo.more (h:QTo w lab z pv q n w')(hn:n≤m):QTo w lab z pv q m w' :=by
 obtain ⟨aZ,a1,b1⟩:=h;exact ⟨aZ,a1.more hn,b1⟩
theorem QTo.quiet {w1:World}(h:QTo w lab z pv q n w1)(hf:Fr No w1 w'):QTo w lab z pv q n w' :=by
 obtain ⟨aZ,a1,b1,c1⟩:=h;exact ⟨aZ,a1.ak hf,b1,c1.trans hf fun _ hi=>hi.elim⟩
open Classical in
noncomputable def lD (w:World) (lab:Nat→Option Nat) (F' Ge:Nat→Prop) (i:Nat):Nat→Option Nat:=fun b=>if b<w.heap.size then lab b else if F' b then some (10+i) else if Ge b then some 3 else none
theorem pG {F' Ge:Nat→Prop}{i b:Nat}(hb:b<w.heap.size):lD w lab F' Ge i b=lab b:=if_pos hb
theorem mW {F' Ge:Nat→Prop}{i b k:Nat}(h:lD w lab F' Ge i b=some k):(b<w.heap.size∧lab b=some k)∨(w.heap.size≤b∧F' b∧k=10+i)∨(w.heap.size≤b∧¬F' b∧Ge b∧k=3):=by
 unfold lD at h
 split at h
 ·exact .inl ⟨‹_›,h⟩
 ·split at h
  ·injection h with h
   exact .inr (.inl ⟨by omega,‹_›,h.symm⟩)
  ·split at h
   ·injection h with h
    exact .inr (.inr ⟨by omega,‹_›,‹_›,h.symm⟩)
   ·cases h
theorem QAt.turned (h:QAt w lab z pv q n){i:Nat}(hi:i<q.n){x:Rs×List Ms}{e:Ending}(hnm:n≤m)(hc:aQ w (part lab (10+i)) (pv i) x m e w')(h1:x.1.id=(q.rs i).id)(h2:x.1.n=(q.rs i).n):
  ∃A c lab' Gs vs,e= .returned (.slice A x.2.length c)∧QAt w' lab' z pv (q.put i (x.1,[])) m∧gB w' Gs (part lab' 3) (.slice A x.2.length c) x.2 vs∧(∀b,Gs b→lab' b=none)∧(∀b,b<w.heap.size→lab' b=lab b)∧Fr (part lab (10+i)) w w' :=by
 obtain ⟨A,c,F',G,e1,⟨Gs,Ge,vs,m1,m2,m3⟩,r1,k1,k2,k3,fr⟩:=hc;have hsz:=fr.size;have ai8:=r1.lt;have hap:∀k b,k≠10+i→lab b=some k→¬part lab (10+i) b:=fun k b hk hb hp=>by
  have hp:lab b=some (10+i):=hp;rw [hb] at hp;injection hp with hp;exact hk hp
 have hlab:∀b k,lD w lab F' Ge i b=some k→b<w'.heap.size:=fun b k hb=>by
  rcases mW hb with ⟨q1,-⟩|⟨-,q2,-⟩|⟨-,-,q2,-⟩
  ·omega
  ·exact ai8 b q2
  ·exact m1.ltE b q2
 have hold:∀k b,lab b=some k→part (lD w lab F' Ge i) k b:=fun k b hb=>by
  show lD w lab F' Ge i b=some k
  rw [pG (h.lt b k hb)];exact hb
 have al9:∀b,Gs b→lD w lab F' Ge i b=none:=fun b hb=>by
  cases hq:lD w lab F' Ge i b with
  |none=>rfl
  |some k=>
   have hbn:=k2 b (m2 b hb)
   rcases mW hq with ⟨q1,-⟩|⟨-,q2,-⟩|⟨-,-,q2,-⟩
   ·omega
   ·exact absurd (m2 b hb) (k3 b q2)
   ·exact absurd q2 (m1.apart b hb)
 have aoa:∀j k:Nat,j≠k→∀b,part (lD w lab F' Ge i) j b→¬part (lD w lab F' Ge i) k b:=fun j k hjk b hj hk=>by
  have hj:lD w lab F' Ge i b=some j:=hj;have hk:lD w lab F' Ge i b=some k:=hk;rw [hj] at hk;injection hk with hk;exact hjk hk
 obtain ⟨Ar,cr,NV,DV,ns,b1,b2,b3,b4⟩:=h.mem;obtain ⟨o1,o2,o3⟩:=h.ok.each i hi;refine ⟨A,c,lD w lab F' Ge i,Gs,vs,e1,⟨hlab,⟨Ar,cr,NV,DV,ns,b1.fr fr (hap 0 z oy h.z0),(b2.fr fr fun b hb=>hap 1 b oy hb).mono (hold 1),?_,(b4.fr' fr fun g hg=>hap 4 g oy (b4.2 g hg)).mono (hold 4)⟩,hold 0 z h.z0,fun j hj=> ?_,?_⟩,?_,al9,fun b hb=>pG hb,fr⟩
 ·exact (b3.fr fr (fun b hb=>hap 2 b oy hb) (fun b hb=>hap 3 b oy hb)).same (hold 2) (hold 3) (aoa 2 3 oy) (fun b hb=>hlab b 2 hb) (fun b hb=>hlab b 3 hb)
 ·show RAt w' _ (pv j) (upd q.rs i x.1 j) m
  by_cases hji:j=i
  ·subst hji
   rw [oU];refine r1.mono (fun b hb=> ?_) (fun b hb=>hlab b _ hb)
   rcases k1 b hb with hq|hq
   ·exact hold _ b hq
   ·show lD w lab F' Ge j b=_
    unfold lD;rw [if_neg oy,if_pos hb]
  ·rw [upd_ne hji]
   exact (((h.jN j hj).fr fr fun b hb=>hap (10+j) b oy hb).more hnm).mono (hold (10+j)) (fun b hb=>hlab b _ hb)
 ·exact h.ok.put hi r1.ok h1 h2 (fun m hm=>by cases hm)
 ·refine m1.wide (fun b hb=> ?_) (fun b hb hp=> ?_) (fun b hb=>hlab b 3 hb)
  ·have hbn:=k2 b (m3 b hb)
   show lD w lab F' Ge i b=_
   unfold lD;rw [if_neg oy,if_neg (fun hh=>k3 b hh (m3 b hb)),if_pos hb]
  ·have hp:lD w lab F' Ge i b=some 3:=hp
   rw [al9 b hb] at hp
   cases hp
end
end
section
theorem yZ:∀(ms:List Ms) (vs:List Value) (k:Nat),vs.length=ms.length→(msV ms vs).take (k*9)=msV (ms.take k) (vs.take k):=by
 intro ms
 induction ms with
 |nil=>intro vs k h;simp [msV]
 |cons m ms ih=>
  intro vs k h
  rcases vs with _|⟨v,vs⟩
  ·simp at h
  ·rcases k with _|k
   ·simp [msV]
   ·have hl:(m.cells v).length=9:=rfl
    simp only [msV,List.take_succ_cons];rw [List.take_append,hl,List.take_of_length_le oy,show (k+1)*9-9=k*9 from by omega,ih vs k (by simpa using h)]
theorem uy:∀(ms:List Ms) (vs:List Value) (k:Nat),vs.length=ms.length→(msV ms vs).drop (k*9)=msV (ms.drop k) (vs.drop k):=by
 intro ms
 induction ms with
 |nil=>intro vs k h;simp [msV]
 |cons m ms ih=>
  intro vs k h
  rcases vs with _|⟨v,vs⟩
  ·simp at h
  ·rcases k with _|k
   ·simp
   ·have hl:(m.cells v).length=9:=rfl
    simp only [msV,List.drop_succ_cons];rw [List.drop_append,hl,List.drop_of_length_le oy,show (k+1)*9-9=k*9 from by omega,ih vs k (by simpa using h),List.nil_append]
theorem sU:∀(a b:List Ms) (va vb:List Value),va.length=a.length→msV (a++b) (va++vb)=msV a va++msV b vb:=by
 intro a
 induction a with
 |nil=>intro b va vb h;obtain rfl:va=[]:=List.eq_nil_of_length_eq_zero h;simp [msV]
 |cons m a ih=>
  intro b va vb h
  rcases va with _|⟨v,va⟩
  ·simp at h
  ·simp only [List.cons_append,msV,List.append_assoc]
   rw [ih b va vb (by simpa using h)]
theorem jC:∀(ms:List Ms) (vs:List Value),(∀v∈vs,v.oneCell' =true)→∀u∈msV ms vs,u.oneCell' =true:=by
 intro ms
 induction ms with
 |nil=>intro vs _ u hu;cases vs<;>cases hu
 |cons m ms ih=>
  intro vs h u hu
  rcases vs with _|⟨v,vs⟩
  ·cases hu
  ·simp only [msV] at hu
   rcases List.mem_append.1 hu with hu|hu
   ·simp only [Ms.cells,List.mem_cons,List.not_mem_nil,or_false] at hu
    rcases hu with rfl|rfl|rfl|rfl|rfl|rfl|rfl|rfl|rfl
    all_goals first|rfl|exact h _ (by simp)
   ·exact ih vs (fun x hx=>h x (by simp [hx])) u hu
section
variable {w w' :World}{Gs Ge:Nat→Prop}{v v' :Value}{ms:List Ms}{vs:List Value}
theorem Ent.slc {G:Nat→Prop}{x:Value}{es:List Lg}(h:Ent w G x es):x.oneCell' =true:=by
 obtain ⟨A,c,rfl,-⟩:=h
 rfl
theorem gB.ah3 (h:gB w Gs Ge v ms vs):∀x∈vs,x.oneCell' =true:=by
 intro x hx;obtain ⟨i,hi,he⟩:=List.mem_iff_getElem.1 hx;have hx' :vs[i]? =some x:=by rw [List.getElem?_eq_getElem hi,he]
 obtain ⟨m,hm⟩:∃m,ms[i]? =some m:=⟨_,List.getElem?_eq_getElem (by rw [←h.len];exact hi)⟩;exact (h.each i m x hm hx').slc
theorem gB.erase (h:gB w Gs Ge v ms vs){i:Nat}(hi:i<ms.length){k:Nat}(hf:Fr Gs w w')(ho:bG w' Gs TMs 9 v' k ((msV ms vs).take (i*9)++(msV ms vs).drop ((i+1)*9)))(hk:k+1=ms.length):gB w' Gs Ge v' (ms.eraseIdx i) (vs.eraseIdx i):=by
 have hl:=h.len;refine ⟨?_,?_,fun j m x hm hx=> ?_,h.apart,fun b hb=>nll (h.ltS b hb) hf.size,fun b hb=>nll (h.ltE b hb) hf.size⟩
 ·rw [yZ _ _ _ hl,uy _ _ _ hl,←sU _ _ _ _ (by simp [hl]),←List.eraseIdx_eq_take_drop_succ,←List.eraseIdx_eq_take_drop_succ] at ho
  rw [List.length_eraseIdx,if_pos hi,show ms.length-1=k from by omega];exact ho
 ·rw [List.length_eraseIdx,List.length_eraseIdx,hl]
 ·rw [List.getElem?_eraseIdx] at hm hx
  split at hm
  ·rw [if_pos ‹_›] at hx
   exact (h.each j m x hm hx).fr hf fun b hb hg=>h.apart b hg hb
  ·rw [if_neg ‹_›] at hx
   exact (h.each (j+1) m x hm hx).fr hf fun b hb hg=>h.apart b hg hb
end
section
variable {w w' :World}{lab lab' :Nat→Option Nat}{z n m:Nat}{pv:Nat→Nat}{q:Qs}{F:Nat→Prop}
theorem aG {j k:Nat}(h:j≠k):∀b,part lab j b→¬part lab k b:=fun b hj hk=>by
 have hj:lab b=some j:=hj;have hk:lab b=some k:=hk;rw [hj] at hk;injection hk with hk;exact h hk
theorem QAt.oD {Ar:Option Addr}{cr:Nat}{NV NV' DV:Value}{rJ :List Ms}{vs' :List Value}(h:QAt w lab z pv q n)(h1:Blk w z oO #[.slice Ar q.n cr,NV,DV])
  (h2:Own w (part lab 1) TPR (.slice Ar q.n cr) ((List.range q.n).map fun i=> .pointer (some ⟨pv i,0,none⟩))) (h4:bG w (part lab 4) 49 9 DV q.done.length (gV q.done))
  (hf:Fr (fun b=>lab b=some 0∨lab b=some 2) w w') (ho:∀b,b<w.heap.size→lab' b=lab b) (hn:∀b k,w.heap.size≤b→lab' b=some k→k=2∧b<w'.heap.size)
  (hz:Blk w' z oO #[.slice Ar q.n cr,NV',DV]) (hm:gB w' (part lab' 2) (part lab' 3) NV' rJ vs') (hok:lu {q with net:=rJ}):QAt w' lab' z pv {q with net:=rJ} n:=by
 have hd:∀k,k≠0→k≠2→∀b,part lab k b→¬(lab b=some 0∨lab b=some 2):=fun k k0 k2 b hb hh=>by
  rcases hh with hh|hh
  ·exact aG k0 b hb hh
  ·exact aG k2 b hb hh
 have hold:∀k b,lab b=some k→part lab' k b:=fun k b hb=>by
  show lab' b=some k
  rw [ho b (h.lt b k hb)];exact hb
 have hlt:∀b k,lab' b=some k→b<w'.heap.size:=fun b k hb=>by
  rcases Nat.lt_or_ge b w.heap.size with hl|hl
  ·exact nll hl hf.size
  ·exact (hn b k hl hb).2
 refine ⟨hlt,⟨Ar,cr,NV',DV,vs',hz,(h2.fr hf (hd 1 oy oy)).mono (hold 1),hm,(h4.fr' hf fun g hg=>hd 4 oy oy g (h4.2 g hg)).mono (hold 4)⟩,hold 0 z h.z0,fun i hi=> ?_,hok⟩;exact ((h.jN i hi).fr hf (hd (10+i) oy oy)).mono (hold (10+i)) (fun b hb=>hlt b _ hb)
theorem lu.oD (h:lu q){rJ :List Ms}(h1:rJ.length≤256)(h2:∀m∈rJ,fI q.n m):lu {q with net:=rJ}:=⟨h.pos,h.five,h.each,h1,h2,h.done⟩
set_option maxHeartbeats 2000000 in
theorem pq (h:QAt w lab z pv q n)(i:Nat)(hi:i<q.net.length):
  Calls Tryz.prog 63 #[.pointer (some ⟨z,0,none⟩),.int .i64 (i:Int)] w fun e w' =>e= .returned (.tuple #[])∧QAt w' lab z pv (q.remove i) n∧Fr (fun b=>lab b=some 0∨lab b=some 2) w w' :=by
 obtain ⟨Ar,cr,NV,DV,vs,h1,h2,h3,h4⟩:=h.mem;have jF:=h.ok.net;obtain ⟨A,c,rfl,-⟩:=h3.own.form;have hdel:=aee (F:=part lab 2) h3.own (jC _ _ h3.ah3) (i:=i) (r:=q.net.length-i-1) oy;have hkl:i+(q.net.length-i-1)+1=q.net.length:=by omega
 generalize i+(q.net.length-i-1)=k at*;have hfin:∀W1,bG W1 (part lab 2) TMs 9 (.slice A k c) k ((msV q.net vs).take (i*9)++(msV q.net vs).drop ((i+1)*9))→Fr (part lab 2) w W1→QAt (W1.setCell ⟨z,1,none⟩ (.slice A k c)) lab z pv (q.remove i) n∧Fr (fun b=>lab b=some 0∨lab b=some 2) w (W1.setCell ⟨z,1,none⟩ (.slice A k c)):=by
  intro W1 ho hf;have hm:=h3.erase hi hf ho hkl;have hz1:Blk W1 z oO #[.slice Ar q.n cr,.slice A q.net.length c,DV]:=h1.fr hf (aG (show (0:Nat)≠2 by omega) z h.z0);have hf2:Fr (fun b=>lab b=some 0∨lab b=some 2) w (W1.setCell ⟨z,1,none⟩ (.slice A k c)):=(hf.mono fun b hb=> .inr hb).setCell (p:=⟨z,1,none⟩) (.inl (.inl h.z0)) _;have hm2:gB (W1.setCell ⟨z,1,none⟩ (.slice A k c)) (part lab 2) (part lab 3) (.slice A k c) (q.net.eraseIdx i) (vs.eraseIdx i):=
   hm.fr (dx W1 ⟨z,1,none⟩ _) (fun b hb e=>aG (show (2:Nat)≠0 by omega) b hb (e▸h.z0)) (fun b hb e=>aG (show (3:Nat)≠0 by omega) b hb (e▸h.z0))
  exact ⟨h.oD h1 h2 h4 hf2 (fun _ _=>rfl) (fun b k hb hk=>absurd (h.lt b k hk) oy) ((hz1.aU 1 _).conv rfl) hm2 (h.ok.remove i),hf2⟩
 have z1:w.cell? ⟨z,1,none⟩=some (.slice A q.net.length c):=h1.cell 1;have hzk:∀W1,Fr (part lab 2) w W1→W1.cell? ⟨z,1,none⟩=some (.slice A q.net.length c)∧W1.frozen? ⟨z,1,none⟩=false:=fun W1 hf=>⟨(h1.fr hf (aG (show (0:Nat)≠2 by omega) z h.z0)).cell 1,(h1.fr hf (aG (show (0:Nat)≠2 by omega) z h.z0)).frozen 1⟩;rw [show ((i+1:Nat):Int)=(i:Int)+1 from by omega] at hdel;have hib:(i:Int)<256:=by omega
 clear h h1 h2 h3 h4;obtain ⟨ang,bS,HZK⟩:=bP hdel hfin hzk;clear hdel hfin hzk
 go_in
 go_wp2_with fail
 refine ang.out.mono ?_;rintro e w1 ⟨rfl,o1,f1⟩;obtain ⟨z1',zf⟩:=HZK.out _ f1;have T1:=O (bS.out _ o1 f1);clear o1 f1 z1
 go_wp2_with fail
 go_end0
 exact ⟨rfl,T1.out⟩
end
end
section
section
variable {w w' :World}{lab lab' :Nat→Option Nat}{z n m:Nat}{pv:Nat→Nat}{q:Qs}{F:Nat→Prop}
theorem QAt.pushed {Ar:Option Addr}{cr:Nat}{NV DV v' x:Value}{vs:List Value}{W W' :World}{m:Ms}(h:QAt w lab z pv q n)(h1:Blk w z oO #[.slice Ar q.n cr,NV,DV])
  (h2:Own w (part lab 1) TPR (.slice Ar q.n cr) ((List.range q.n).map fun i=> .pointer (some ⟨pv i,0,none⟩))) (h3:gB w (part lab 2) (part lab 3) NV q.net vs) (h4:bG w (part lab 4) 49 9 DV q.done.length (gV q.done))
  (hf:Fr No w W) (ha:bN W 0 TMs 9 NV q.net.length (msV q.net vs) (m.cells x) 1 v' W') (hx:Ent w (part lab 3) x m.es) (hto:fI q.n m) (hlt:q.net.length<256):
  ∃lab',QAt (W'.setCell ⟨z,1,none⟩ v') lab' z pv {q with net:=q.net++[m]} n∧(∀b,b<w.heap.size→lab' b=lab b)∧(∀b k,w.heap.size≤b→lab' b=some k→k=2)∧Fr (fun b=>lab b=some 0∨lab b=some 2) w (W'.setCell ⟨z,1,none⟩ v'):=by
 obtain ⟨o1,f1⟩:=(h3.own.ak hf).appended ha;have hsz:=hf.size;have hsz2:=f1.size;have hzl:=h.lt z 0 h.z0;obtain ⟨lab',hlab⟩:∃lab' :Nat→Option Nat,lab' =fun b=>if b<w.heap.size then lab b else if b=W.heap.size∧b<W'.heap.size then some 2 else none:=⟨_,rfl⟩
 have ho:∀b,b<w.heap.size→lab' b=lab b:=fun b hb=>by rw [hlab];exact if_pos hb
 have hn:∀b k,w.heap.size≤b→lab' b=some k→k=2∧b<W'.heap.size:=fun b k hb hk=>by
  rw [hlab] at hk;simp only at hk;rw [if_neg oy] at hk
  split at hk
  ·rename_i hh
   injection hk with hk;exact ⟨hk.symm,hh.2⟩
  ·cases hk
 have hlt' :∀b k,lab' b=some k→b<W'.heap.size:=fun b k hb=>by
  rcases Nat.lt_or_ge b w.heap.size with hl|hl
  ·omega
  ·exact (hn b k hl hb).2
 have hold:∀k b,lab b=some k→part lab' k b:=fun k b hb=>by
  show lab' b=some k
  rw [ho b (h.lt b k hb)];exact hb
 have hfF:Fr (part lab 2) w W' :=(hf.mono (G:=part lab 2) fun _ hi=>hi.elim).trans f1 fun b hb=> .inl hb;have hfz:Fr (fun b=>b=z) W' (W'.setCell ⟨z,1,none⟩ v'):=dx W' ⟨z,1,none⟩ v';have hf2:Fr (fun b=>lab b=some 0∨lab b=some 2) w (W'.setCell ⟨z,1,none⟩ v'):=(hfF.mono fun b hb=> .inr hb).setCell (p:=⟨z,1,none⟩) (.inl (.inl h.z0)) _;have hz1:Blk W' z oO #[.slice Ar q.n cr,NV,DV]:=h1.fr hfF (aG (show (0:Nat)≠2 by omega) z h.z0);have hne:∀k,k≠0→∀b,part lab' k b→¬b=z:=fun k hk b hb e=>by
  have hb:lab' b=some k:=hb;rw [e,ho z hzl,h.z0] at hb;injection hb with hb;exact hk hb.symm
 have hcells:(m.cells x).length=1*9:=rfl;have an6:gB W' (part lab' 2) (part lab' 3) v' (q.net++[m]) (vs++[x]):=by
  refine ⟨?_,by simp [h3.len],fun i m' x' hm hx' => ?_,aG (show (2:Nat)≠3 by omega),fun b hb=>hlt' b 2 hb,fun b hb=>hlt' b 3 hb⟩
  ·rw [uw _ _ _ _ h3.len,List.length_append,List.length_singleton]
   refine o1.mono fun b hb=> ?_
   rcases hb with hb|hb
   ·exact hold 2 b hb
   ·show lab' b=some 2
    rw [hlab];simp only;rw [if_neg oy,if_pos hb]
  ·rcases Nat.lt_or_ge i q.net.length with hi|hi
   ·rw [List.getElem?_append_left hi] at hm
    rw [List.getElem?_append_left (by rw [h3.len];exact hi)] at hx';exact ((h3.each i m' x' hm hx').fr hfF (aG (show (3:Nat)≠2 by omega))).mono (hold 3)
   ·rw [List.getElem?_append_right hi] at hm
    rw [List.getElem?_append_right (by rw [h3.len];exact hi)] at hx';have hi0:i-q.net.length=0:=by
     have:=(List.getElem?_eq_some_iff.1 hm).1
     simp at this;omega
    rw [hi0] at hm;rw [h3.len,hi0] at hx'
    simp at hm hx'
    subst hm hx';exact (hx.fr hfF (aG (show (3:Nat)≠2 by omega))).mono (hold 3)
 have hok:lu {q with net:=q.net++[m]}:=h.ok.oD (by simp;omega) fun m' hm' =>by
  rcases List.mem_append.1 hm' with hm' |hm'
  ·exact h.ok.msgs m' hm'
  ·simp at hm';rw [hm'];exact hto
 refine ⟨lab',h.oD h1 h2 h4 hf2 ho (fun b k hb hk=> ?_) ((hz1.aU 1 _).conv rfl) (an6.fr hfz (hne 2 oy) (hne 3 oy)) hok,ho,fun b k hb hk=>(hn b k hb hk).1,hf2⟩;have:=hn b k hb hk;exact ⟨this.1,nll this.2 hfz.size⟩
theorem QAt.dropped {Ar:Option Addr}{cr:Nat}{A:Option Addr}{c:Nat}{DV:Value}{vs:List Value}{W W' :World}(h:QAt w lab z pv q n)(h1:Blk w z oO #[.slice Ar q.n cr,.slice A q.net.length c,DV])
  (h2:Own w (part lab 1) TPR (.slice Ar q.n cr) ((List.range q.n).map fun i=> .pointer (some ⟨pv i,0,none⟩))) (h3:gB w (part lab 2) (part lab 3) (.slice A q.net.length c) q.net vs) (h4:bG w (part lab 4) 49 9 DV q.done.length (gV q.done))
  (hf:Fr No w W) {k:Nat} (hk:k+1=q.net.length) (hfd:Fr (part lab 2) W W') (ho:bG W' (part lab 2) TMs 9 (.slice A k c) k ((msV q.net vs).take (0*9)++(msV q.net vs).drop ((0+1)*9))):
  QAt (W'.setCell ⟨z,1,none⟩ (.slice A k c)) lab z pv (q.remove 0) n∧Fr (fun b=>lab b=some 0∨lab b=some 2) w (W'.setCell ⟨z,1,none⟩ (.slice A k c)):=by
 have hfF:Fr (part lab 2) w W' :=(hf.mono (G:=part lab 2) fun _ hi=>hi.elim).trans hfd fun b hb=> .inl hb;have hm:=h3.erase oy hfF ho hk;have hz1:Blk W' z oO #[.slice Ar q.n cr,.slice A q.net.length c,DV]:=h1.fr hfF (aG (show (0:Nat)≠2 by omega) z h.z0);have hf2:Fr (fun b=>lab b=some 0∨lab b=some 2) w (W'.setCell ⟨z,1,none⟩ (.slice A k c)):=(hfF.mono fun b hb=> .inr hb).setCell (p:=⟨z,1,none⟩) (.inl (.inl h.z0)) _;have hm2:gB (W'.setCell ⟨z,1,none⟩ (.slice A k c)) (part lab 2) (part lab 3) (.slice A k c) (q.net.eraseIdx 0) (vs.eraseIdx 0):=
  hm.fr (dx W' ⟨z,1,none⟩ _) (fun b hb e=>aG (show (2:Nat)≠0 by omega) b hb (e▸h.z0)) (fun b hb e=>aG (show (3:Nat)≠0 by omega) b hb (e▸h.z0))
 exact ⟨h.oD h1 h2 h4 hf2 (fun _ _=>rfl) (fun b k hb hk=>absurd (h.lt b k hk) oy) ((hz1.aU 1 _).conv rfl) hm2 (h.ok.remove 0),hf2⟩
def lU (w:World)(lab:Nat→Option Nat)(z:Nat)(pv:Nat→Nat)(q:Qs)(n:Nat)(l:List Ms)(k:Nat)(W:World):Prop:=
 ∃lab',QAt W lab' z pv {q with net:=sendAll q.net (l.take k)} n∧(∀b,b<w.heap.size→lab' b=lab b)∧(∀b j,w.heap.size≤b→lab' b=some j→j=2)∧Fr (fun b=>lab b=some 0∨lab b=some 2) w W∧W.cell? ⟨z,0,none⟩=w.cell? ⟨z,0,none⟩
theorem lU.next {aZ:Nat→Option Nat}{wr W2 W W' :World}{l:List Ms}{k:Nat}{m:Ms}{Q2:Qs}{Ar:Option Addr}{cr:Nat}{NV DV v' x:Value}{vs:List Value}
  (hl1:∀b,b<w.heap.size→aZ b=lab b) (hl2:∀b j,w.heap.size≤b→aZ b=some j→j=2) (hfr:Fr (fun b=>lab b=some 0∨lab b=some 2) w wr) (hf2:Fr (fun b=>aZ b=some 0∨aZ b=some 2) wr W2)
  (h:QAt W2 aZ z pv Q2 n) (hzc:W2.cell? ⟨z,0,none⟩=w.cell? ⟨z,0,none⟩) (h1:Blk W2 z oO #[.slice Ar Q2.n cr,NV,DV])
  (h2:Own W2 (part aZ 1) TPR (.slice Ar Q2.n cr) ((List.range Q2.n).map fun i=> .pointer (some ⟨pv i,0,none⟩))) (h3:gB W2 (part aZ 2) (part aZ 3) NV Q2.net vs) (h4:bG W2 (part aZ 4) 49 9 DV Q2.done.length (gV Q2.done))
  (hx:Ent W2 (part aZ 3) x m.es) (hto:fI Q2.n m) (hlt:Q2.net.length<256) (hnext:{Q2 with net:=Q2.net++[m]}={q with net:=sendAll q.net (l.take (k+1))})
  (hf:Fr No W2 W) (ha:bN W 0 TMs 9 NV Q2.net.length (msV Q2.net vs) (m.cells x) 1 v' W'):lU w lab z pv q n l (k+1) (W'.setCell ⟨z,1,none⟩ v')∧Fr (part aZ 2) W2 W' :=by
 obtain ⟨dG,a1,a2,a3,a4⟩:=h.pushed h1 h2 h3 h4 hf ha hx hto hlt;rw [hnext] at a1;have hs1:=hfr.size;have hs2:=hf2.size;have hpush:∀b,aZ b=some 0∨aZ b=some 2→(lab b=some 0∨lab b=some 2)∨w.heap.size≤b:=fun b hb=>by
  rcases Nat.lt_or_ge b w.heap.size with hl|hl
  ·rw [hl1 b hl] at hb
   exact .inl hb
  ·exact .inr hl
 refine ⟨⟨dG,a1,fun b hb=>(a2 b oy).trans (hl1 b hb),fun b j hb hj=> ?_,(hfr.trans hf2 hpush).trans a4 hpush,?_⟩,((hf.mono (G:=part aZ 2) fun _ hi=>hi.elim).trans ((h3.own.ak hf).appended ha).2 fun b hb=> .inl hb)⟩
 ·rcases Nat.lt_or_ge b W2.heap.size with hl|hl
  ·rw [a2 b hl] at hj
   exact hl2 b j hb hj
  ·exact a3 b j hl hj
 ·have hp:Fr (part aZ 2) W2 W' :=((hf.mono (G:=part aZ 2) fun _ hi=>hi.elim).trans ((h3.own.ak hf).appended ha).2 fun b hb=> .inl hb)
  rw [World.cell?_setCell_other _ _ _ _ (by simp),hp.cell (p:=⟨z,0,none⟩) (h.lt z 0 h.z0) (aG (show (0:Nat)≠2 by omega) z h.z0)];exact hzc
set_option maxHeartbeats 8000000 in
theorem akq (h:QAt w lab z pv q n){l:List Ms}{A:Option Addr}{c:Nat}{vs:List Value}{Gs:Nat→Prop}(hl:gB w Gs (part lab 3) (.slice A l.length c) l vs)(hG:∀b,Gs b→lab b=none)(hto:∀m∈l,fI q.n m)(hll:l.length≤1000):
  Calls Tryz.prog 62 #[.pointer (some ⟨z,0,none⟩),.slice A l.length c] w fun e w' =>e= .returned (.tuple #[])∧lU w lab z pv q n l l.length w' :=by
 obtain ⟨i1,hi1,hz0,hz1,hz2⟩:=info_parts jY;have hstart:lU w lab z pv q n l 0 w:=⟨lab,h,fun _ _=>rfl,fun b j hb hj=>absurd (h.lt b j hj) oy,Fr.refl _ _,rfl⟩;have hlt:=h.lt;have hkeep:∀W,Fr (fun b=>lab b=some 0∨lab b=some 2) w W→gB W Gs (part lab 3) (.slice A l.length c) l vs:=fun W hf=>hl.fr hf (fun b hb hh=>by rw [hG b hb] at hh;simp at hh) (fun b hb hh=>by
  rcases hh with hh|hh
  ·exact aG (show (3:Nat)≠0 by omega) b hb hh
  ·exact aG (show (3:Nat)≠2 by omega) b hb hh)
 have hzl:=h.lt z 0 h.z0;clear h hl;obtain ⟨iw,yD,HTO,HLT,HG⟩:=jr hstart hkeep hto hlt hG;clear hstart hkeep hto hlt hG
 go_in
 go_wp2_with fail
 go_loopw [8] (fun i wr=>∃k:Nat,k≤l.length∧i= .int .i64 k∧lU w lab z pv q n l k wr) (fun i _=>l.length-(intOf i).toNat)
 case atStart=>exact ⟨0,Nat.zero_le _,rfl,iw.out⟩
 case round=>
  obtain ⟨k,hk,rfl,aZ,hq,hl1,hl2,hfr,hzc⟩:=hrel;have hzc:=O hzc
  by_cases hlt:k<l.length
  ·have b1:decide (k<l.length)=true:=by simpa using hlt
   have b2:decide ((k:Int)<(l.length:Int))=true:=by simp;omega
   have hlt2:(k:Int)<(l.length:Int):=by omega
   obtain ⟨m,hm⟩:∃m,l[k]? =some m:=⟨_,List.getElem?_eq_getElem hlt⟩;have nS:=HTO.out m (List.mem_of_getElem? hm);obtain ⟨bl,x,rfl,hbl,-,-,hxe,d0,d1,d2,d3,d4,d5,d6,d7,d8⟩:=(yD.out wr hfr).at_ hm;have hxe1:Ent wr (part aZ 3) x m.es:=hxe.lt.mono fun b hb=>by
    have h3:lab b=some 3:=hb.1
    show aZ b=some 3
    rw [hl1 b (HLT.out b 3 h3)];exact h3
   have hsn:sendAll q.net (l.take (k+1))=eY (sendAll q.net (l.take k)) m:=by rw [List.take_add_one,hm,←oF];rfl
   obtain ⟨Ar,cr,NV,DV,ns,h1,h2,h3,h4⟩:=hq.mem;have jF:=hq.ok.net;have ald:=hq.lt z 0 hq.z0;obtain ⟨An,cn,rfl,-⟩:=h3.own.form;have hxs:=hxe1.slc;obtain ⟨Q,hQ⟩:∃Q:Qs,Q={q with net:=sendAll q.net (l.take k)}:=⟨_,rfl⟩;have hnx:({q with net:=sendAll q.net (l.take (k+1))}:Qs)={Q with net:=eY Q.net m}:=by rw [hsn,hQ]
   have hQn:Q.n=q.n:=by rw [hQ]
   rw [←hQ] at hq h1 h2 h3 h4 jF
   change gB wr (part aZ 2) (part aZ 3) (.slice An Q.net.length cn) Q.net ns at h3
   change Blk wr z oO #[.slice Ar Q.n cr,.slice An Q.net.length cn,DV] at h1
   change Own wr (part aZ 1) TPR (.slice Ar Q.n cr) ((List.range Q.n).map fun i=> .pointer (some ⟨pv i,0,none⟩)) at h2
   change bG wr (part aZ 4) 49 9 DV Q.done.length (gV Q.done) at h4
   change Q.net.length≤256 at jF
   rw [←hQn] at nS;have hone:∀u∈m.cells x,u.oneCell' =true:=sS m hxe1;have z1:wr.cell? ⟨z,1,none⟩=some (.slice An Q.net.length cn):=h1.cell 1;have hne:wr.heap.size≠z:=by omega
   have hne2:z≠wr.heap.size:=by omega
   obtain ⟨kd,mf,mto,mt,ix,pr,cm,ok,es⟩:=m;simp only at d0 d1 d2 d3 d4 d5 d6 d7 d8 hxe1 hxe;obtain ⟨Ax,cx,rfl⟩:∃Ax cx,x= .slice Ax es.length cx:=(let ⟨A,c,e,_⟩:=hxe1;⟨A,c,e⟩);obtain ⟨W1,hW1⟩:∃W1,W1=wr.alloc (.cells #[.int .i64 kd,.int .i64 mf,.int .i64 mto,.int .i64 mt,.int .i64 ix,.int .i64 pr,.int .i64 cm,.bool ok,.slice Ax es.length cx] TMs):=⟨_,rfl⟩;obtain ⟨g,hg⟩:∃g,g=wr.heap.size:=⟨_,rfl⟩;have hb1:Blk W1 g TMs (Ms.cells ⟨kd,mf,mto,mt,ix,pr,cm,ok,es⟩ (.slice Ax es.length cx)).toArray:=by rw [hW1,hg];exact Blk.new _ _ _
   have hf1:Fr No wr W1:=by rw [hW1];exact aj _ _
   by_cases hfull:256≤Q.net.length
   ·have t1:decide (256≤Q.net.length)=true:=by simpa using hfull
    have t2:decide ((256:Int)≤(Q.net.length:Int))=true:=by simp;omega
    have hkl:0+(Q.net.length-1)+1=Q.net.length:=by omega
    have hdel:=aee (F:=part aZ 2) (h3.ak hf1).own (jC _ _ h3.ah3) (i:=0) (r:=Q.net.length-1) oy;generalize hK:0+(Q.net.length-1)=K at*;have hKn:K<256:=by omega
    have hdrop:=fun W' (ho:bG W' (part aZ 2) TMs 9 (.slice An K cn) K ((msV Q.net ns).take (0*9)++(msV Q.net ns).drop ((0+1)*9))) (hfd:Fr (part aZ 2) W1 W')=>hq.dropped h1 h2 h3 h4 hf1 hkl hfd ho;have hz8:=fun W' (hf:Fr (part aZ 2) W1 W')=>(⟨((h1.fr hf1 id).fr hf (aG (show (0:Nat)≠2 by omega) z hq.z0)).cell 1,((h1.fr hf1 id).fr hf (aG (show (0:Nat)≠2 by omega) z hq.z0)).frozen 1⟩:W'.cell? ⟨z,1,none⟩=some (.slice An Q.net.length cn)∧W'.frozen? ⟨z,1,none⟩=false);have apn:=fun W' (hf:Fr (part aZ 2) W1 W') (X:Value)=>((World.cell?_setCell_other _ _ _ _ (by simp)).trans (((hf1.mono (G:=part aZ 2) fun _ hi=>hi.elim).trans hf fun b hb=> .inl hb).cell (p:=⟨z,0,none⟩) ald (aG (show (0:Nat)≠2 by omega) z hq.z0))|>.trans hzc.out:(W'.setCell ⟨z,1,none⟩ X).cell? ⟨z,0,none⟩=w.cell? ⟨z,0,none⟩);have hrm:(Q.remove 0).net++[(⟨kd,mf,mto,mt,ix,pr,cm,ok,es⟩:Ms)]=eY Q.net ⟨kd,mf,mto,mt,ix,pr,cm,ok,es⟩:=by
     unfold eY;rw [if_pos hfull]
     show Q.net.eraseIdx 0++_=_
     rw [List.eraseIdx_zero,List.drop_one]
    have hrl:(Q.remove 0).net.length=K:=by
     show (Q.net.eraseIdx 0).length=K
     rw [List.length_eraseIdx,if_pos oy]
     omega
    have hgn:aZ g=none:=by
     cases hlg:aZ g with
     |none=>rfl
     |some j=>exact absurd (hq.lt g j hlg) oy
    have aaq:=fun W' (hf:Fr (part aZ 2) W1 W')=>(hb1.fr hf (fun (hh:aZ g=some 2)=>by rw [hgn] at hh;cases hh):Blk W' g TMs _);have hgz:g≠z:=by omega
    have hxk:=fun W' (hf:Fr (fun b=>aZ b=some 0∨aZ b=some 2) wr W')=>hxe1.fr hf fun b hb hh=>by
     rcases hh with hh|hh
     ·exact aG (show (3:Nat)≠0 by omega) b hb hh
     ·exact aG (show (3:Nat)≠2 by omega) b hb hh
    have hmc:=aL (m:=⟨kd,mf,mto,mt,ix,pr,cm,ok,es⟩) hb1;simp only at hmc;have hz1b:=hz8 W1 (Fr.refl _ _);have ahn:({Q.remove 0 with net:=(Q.remove 0).net++[(⟨kd,mf,mto,mt,ix,pr,cm,ok,es⟩:Ms)]}:Qs)={q with net:=sendAll q.net (l.take (k+1))}:=by rw [hnx,hrm];rfl
    have hpush:=fun W2 (hfw:Fr (fun b=>aZ b=some 0∨aZ b=some 2) wr W2) (hq2:QAt W2 aZ z pv (Q.remove 0) n) (hc2:W2.cell? ⟨z,0,none⟩=w.cell? ⟨z,0,none⟩) {Ar cr NV DV vs} p1 p2 p3 p4 W v' W' (hf:Fr No W2 W) ha=>lU.next (w:=w) (lab:=lab) (z:=z) (pv:=pv) (q:=q) (n:=n) (l:=l) (k:=k) (W:=W) (v' :=v') (W' :=W') (Ar:=Ar) (cr:=cr) (NV:=NV) (DV:=DV) (vs:=vs) hl1 hl2 hfr hfw hq2 hc2 p1 p2 p3 p4 (hxk W2 hfw) nS oy ahn hf ha;clear hl1 hl2 hfr hq h1 h2 h3 h4 hxe1 hxe hnx hb1 hf1 hm hsn hQ hQn hxk hrm ahn;rw [show ((0:Nat):Int)=0 from rfl] at hdel
    change Calls _ _ #[.slice An Q.net.length cn,.int .i64 0,.int .i64 1] W1 _ at hdel
    obtain ⟨HW1,ang,amx,HZ8,aqu,ag2,aa4,HMC,zL,HG,HRL⟩:=xU hW1 hdel hdrop hz8 apn aaq hpush hmc hone hg hrl;clear hW1 hdel hdrop hz8 apn aaq hpush hmc hone hg hrl
    go_upto_region 3 with fail
    rw [←HW1.out,←HG.out];obtain ⟨c0,c1,c2,c3,c4,c5,c6,c7,c8⟩:=HMC.out;obtain ⟨z1',-⟩:=hz1b;clear z1 d0 d1 d2 d3 d4 d5 d6 d7 d8 hne hne2
    go_wp2_with fail
    refine ang.out.mono ?_;rintro e w5 ⟨rfl,o5,f5⟩;obtain ⟨z5,y5⟩:=HZ8.out _ f5;obtain ⟨hq5,hf5⟩:=amx.out _ o5 f5;have e5:=O (aqu.out _ f5 (.slice An K cn));have hb5:=ag2.out _ f5;have hb6:Blk (w5.setCell ⟨z,1,none⟩ (.slice An K cn)) g TMs _:=hb5.aF hgz _;clear c0 c1 c2 c3 c4 c5 c6 c7 c8 z1' o5 f5 hb5;obtain ⟨c0,c1,c2,c3,c4,c5,c6,c7,c8⟩:=aL (m:=⟨kd,mf,mto,mt,ix,pr,cm,ok,es⟩) hb6;simp only at c0 c1 c2 c3 c4 c5 c6 c7 c8;obtain ⟨Ar2,cr2,NV2,DV2,ns2,p1,p2,p3,p4⟩:=hq5.mem;obtain ⟨A6,c6',rfl,-⟩:=p3.own.form;have hpush:=aa4.out _ hf5 hq5 e5.out p1 p2 p3 p4;have z6:(w5.setCell ⟨z,1,none⟩ (.slice An K cn)).cell? ⟨z,1,none⟩=some (.slice A6 (Q.remove 0).net.length c6'):=p1.cell 1;have aq9:=hq5.lt z 0 hq5.z0;have atm:=hb6.lt;have hown:=fun W (hf:Fr No _ W)=>(p3.ak hf).own.1;have hz9:=fun W' (hf:Fr (part aZ 2) (w5.setCell ⟨z,1,none⟩ (.slice An K cn)) W')=>(⟨(p1.fr hf (aG (show (0:Nat)≠2 by omega) z hq5.z0)).cell 1,(p1.fr hf (aG (show (0:Nat)≠2 by omega) z hq5.z0)).frozen 1⟩:W'.cell? ⟨z,1,none⟩=some (.slice A6 (Q.remove 0).net.length c6')∧W'.frozen? ⟨z,1,none⟩=false);have hrl2:(Q.remove 0).net.length<256:=by rw [HRL.out];exact hKn
    clear hq5 hf5 p1 p2 p3 p4 hb6 aa4 ang amx HZ8 ag2 aqu e5;obtain ⟨aa4,HOWN,HZ9⟩:=bP hpush hown hz9;clear hpush hown hz9
    go_wp2_with fail
    generalize w5.setCell ⟨z,1,none⟩ (.slice An K cn)=W6 at*
    go_region_law (refine bf _ (by rfl) (.tmp 30) (.tmp 32) _ (by rfl) 0 TMs i1 _ 9 88 Tryz.underlying63 hi1 hz0 hz1 hz2 rfl dcd (.slice A6 (Q.remove 0).net.length c6') (Q.remove 0).net.length (msV (Q.remove 0).net ns2) (by rfl) (HOWN.out _ (((Fr.refl No _).drew).alloc _)) (W6.heap.size+1) (some ⟨W6.heap.size,0,none⟩) 1 1 (Ms.cells ⟨kd,mf,mto,mt,ix,pr,cm,ok,es⟩ (.slice Ax es.length cx)) (by rfl) (fun h=>by cases h) (Rd.new W6.drew _ TMs rfl) rfl zL.out mxl oy (Nat.zero_le _) ?_;intro v1 w9 happ;obtain ⟨A4,c4,rfl,n4⟩:=aC happ.1;clear n4;obtain ⟨T9,F9⟩:=aa4.out _ _ w9 (((Fr.refl No _).drew).alloc _) happ;obtain ⟨x9,y9⟩:=HZ9.out _ F9;have T9:=O T9;clear happ F9)
    all_goals
     go_wp2_with fail
     go_roundw
     case rel=>exact ⟨k+1,by omega,by go_num,T9.out⟩
     case measure=>simp [intOf];omega
   ·have t1:decide (256≤Q.net.length)=false:=by simpa using hfull
    have t2:decide ((256:Int)≤(Q.net.length:Int))=false:=by simp;omega
    have hown:=fun W (hf:Fr No W1 W)=>((h3.own.ak hf1).ak hf).1;have hpush:=fun W v' W' (hf:Fr No W1 W) ha=>lU.next (w:=w) (lab:=lab) (z:=z) (pv:=pv) (q:=q) (n:=n) (l:=l) (k:=k) (W:=W) (v' :=v') (W' :=W') hl1 hl2 hfr (hf1.mono fun _ hi=>hi.elim) (hq.ak hf1) ((hf1.cell (p:=⟨z,0,none⟩) ald fun h=>h).trans hzc.out) (h1.fr hf1 id) (h2.ak hf1) (h3.ak hf1) (h4.ak hf1) (hxe1.ak hf1) nS oy (by rw [hnx];unfold eY;rw [if_neg hfull]) hf ha;have hz9:=fun W' (hf:Fr (part aZ 2) W1 W')=>(⟨((h1.fr hf1 id).fr hf (aG (show (0:Nat)≠2 by omega) z hq.z0)).cell 1,((h1.fr hf1 id).fr hf (aG (show (0:Nat)≠2 by omega) z hq.z0)).frozen 1⟩:W'.cell? ⟨z,1,none⟩=some (.slice An Q.net.length cn)∧W'.frozen? ⟨z,1,none⟩=false);have hmc:=aL (m:=⟨kd,mf,mto,mt,ix,pr,cm,ok,es⟩) hb1;simp only at hmc;have hz1b:=hz9 W1 (Fr.refl _ _);have adu:z<W1.heap.size:=nll ald hf1.size;have aa9:g<W1.heap.size:=hb1.lt;clear hl1 hl2 hfr hq h1 h2 h3 h4 hxe1 hxe hnx hb1 hf1 hm hsn hQ hQn;obtain ⟨HW1,HOWN,aa4,HZ9,HMC,zL,HG⟩:=nC hW1 hown hpush hz9 hmc hone hg;clear hW1 hown hpush hz9 hmc hone hg
    go_upto_region 3 with fail
    rw [←HW1.out,←HG.out];obtain ⟨c0,c1,c2,c3,c4,c5,c6,c7,c8⟩:=HMC.out;obtain ⟨z1',-⟩:=hz1b;clear z1 d0 d1 d2 d3 d4 d5 d6 d7 d8 hne hne2
    go_wp2_with fail
    go_region_law (refine bf _ (by rfl) (.tmp 30) (.tmp 32) _ (by rfl) 0 TMs i1 _ 9 88 Tryz.underlying63 hi1 hz0 hz1 hz2 rfl dcd (.slice An Q.net.length cn) Q.net.length (msV Q.net ns) (by rfl) (HOWN.out _ (((Fr.refl No _).drew).alloc _)) (W1.heap.size+1) (some ⟨W1.heap.size,0,none⟩) 1 1 (Ms.cells ⟨kd,mf,mto,mt,ix,pr,cm,ok,es⟩ (.slice Ax es.length cx)) (by rfl) (fun h=>by cases h) (Rd.new W1.drew _ TMs rfl) rfl zL.out mxl oy (Nat.zero_le _) ?_;intro v1 w9 happ;obtain ⟨A4,c4,rfl,n4⟩:=aC happ.1;clear n4;obtain ⟨T9,F9⟩:=aa4.out _ _ w9 (((Fr.refl No _).drew).alloc _) happ;obtain ⟨x9,y9⟩:=HZ9.out _ F9;have T9:=O T9;clear happ F9)
    all_goals
     go_wp2_with fail
     go_roundw
     case rel=>exact ⟨k+1,by omega,by go_num,T9.out⟩
     case measure=>simp [intOf];omega
  ·obtain rfl:k=l.length:=by omega
   have b1:decide (l.length<l.length)=false:=by simp
   have T9:=O (show lU w lab z pv q n l l.length wr from ⟨aZ,hq,hl1,hl2,hfr,hzc.out⟩);clear hq hl1 hl2 hfr
   go_wp2_with fail
   go_end0
   exact ⟨rfl,T9.out⟩
end
end
end Go.Proofs.YtjnfmfmglehmbaaGreat
