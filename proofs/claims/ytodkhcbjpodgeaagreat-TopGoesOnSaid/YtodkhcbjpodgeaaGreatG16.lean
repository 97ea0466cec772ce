/-
  What a session table finds, what a store has.
-/
import Derived.Test.YtodkhcbjpodgeaaGreatG09
import Derived.IntWalk
import Derived.Deep.CutBlock
import Derived.Deep.RegionHeld3
namespace Go.Proofs.YtodkhcbjpodgeaaGreat
open Go.ChangeShapes Go.WideShapes Go.ChangeAt Go.RowKit
set_option linter.unusedVariables false
set_option maxRecDepth 100000
set_option maxHeartbeats 4000000
abbrev TRp:TypeId:=34
def Rp.arr (r:Rp):Array Value:= #[.int .i64 r.er,.int .i64 r.sq,.int .i64 r.it,.string r.vl]
theorem bZ {w:World}{g:Nat}{r:Rp}(h:Blk w g TRp r.arr):w.cell? ⟨g,0,none⟩=some (.int .i64 r.er)∧w.cell? ⟨g,1,none⟩=some (.int .i64 r.sq)∧w.cell? ⟨g,2,none⟩=some (.int .i64 r.it)∧w.cell? ⟨g,3,none⟩=some (.string r.vl):=⟨h.cell 0,h.cell 1,h.cell 2,h.cell 3⟩
theorem dN (p:Rp)(g:Nat)(x:Value)(ts:Array Value)(W:World)(hb:Blk W g TRp p.arr)(h6:ts[6]?.getD undef= .pointer (some ⟨g,0,none⟩))(h7:ts[7]?.getD undef=x):
  (results Tryz.f81 ts).run Tryz.prog W= .ok (.tuple #[.agg p.arr,x]) W:=by
 obtain ⟨c0,c1,c2,c3⟩:=bZ hb;clear hb
 simp [results,Tryz.results81,go_sem,h6,h7,Rp.arr,c0,c1,c2,c3]
theorem Blk.cv {w:World}{g:Nat}{t:TypeId}{a b:Array Value}(h:Blk w g t a)(e:a=b):Blk w g t b:=e▸h
theorem iJ {w Z:World}{q:Nat}(p z:Rp)(h:Blk Z q TRp z.arr)(hf:Fr No w Z)(hq:w.heap.size≤q):Blk (World.setCell (World.setCell (World.setCell (World.setCell Z ⟨q,0,none⟩ (.int .i64 p.er)) ⟨q,1,none⟩ (.int .i64 p.sq)) ⟨q,2,none⟩ (.int .i64 p.it)) ⟨q,3,none⟩ (.string p.vl)) q TRp p.arr∧
  Fr No w (World.setCell (World.setCell (World.setCell (World.setCell Z ⟨q,0,none⟩ (.int .i64 p.er)) ⟨q,1,none⟩ (.int .i64 p.sq)) ⟨q,2,none⟩ (.int .i64 p.it)) ⟨q,3,none⟩ (.string p.vl)):=by
 refine ⟨Blk.cv (Blk.aC (Blk.aC (Blk.aC (Blk.aC h 0 (.int .i64 p.er)) 1 (.int .i64 p.sq)) 2 (.int .i64 p.it)) 3 (.string p.vl)) ?_,?_⟩
 ·simp only [Rp.arr,List.setIfInBounds_toArray,List.set_cons_zero,List.set_cons_succ]
 ·exact (((hf.setCell (p:=⟨q,0,none⟩) (.inr hq) _).setCell (p:=⟨q,1,none⟩) (.inr hq) _).setCell (p:=⟨q,2,none⟩) (.inr hq) _).setCell (p:=⟨q,3,none⟩) (.inr hq) _
theorem aY.at_ {w:World}{F:Nat→Prop}{t:Nat}{ss:List Ss}(h:aY w F t ss){c:Nat}(hc:c<8):∃s,ss[c]? =some s∧0≤s.nm∧s.nm≤1048576∧∀W,Fr No w W→(W.cell? ⟨t,c*5,none⟩=some (.int .i64 s.nm)∧W.cell? ⟨t,c*5+1,none⟩=some (.int .i64 s.rp.er)∧W.cell? ⟨t,c*5+2,none⟩=some (.int .i64 s.rp.sq)∧W.cell? ⟨t,c*5+3,none⟩=some (.int .i64 s.rp.it)∧W.cell? ⟨t,c*5+4,none⟩=some (.string s.rp.vl)):=by
 obtain ⟨h1,h2,h3,h4⟩:=h;have hx:ss[c]? =some ss[c]:=List.getElem?_eq_getElem oy;obtain ⟨b1,b2⟩:=h4 _ (List.mem_of_getElem? hx);refine ⟨ss[c],hx,b1,b2,fun W hW=> ?_⟩;have e:=fun j (hj:j<5)=>(((h2.fr hW id).cell (c*5+j)).trans (by rw [List.getElem?_toArray,aif ss c j _ hx hj]):W.cell? ⟨t,c*5+j,none⟩=(ss[c]).cells[j]?);exact ⟨e 0 oy,e 1 oy,e 2 oy,e 3 oy,e 4 oy⟩
set_option maxHeartbeats 2000000 in
theorem xw {w:World}{F:Nat→Prop}{t:Nat}{ss:List Ss}(h:aY w F t ss)(cl nm:Int):
  Calls Tryz.prog 81 #[.pointer (some ⟨t,0,none⟩),.int .i64 cl,.int .i64 nm] w fun e w' =>e= .returned (.tuple #[.agg (findF ss cl nm).1.arr,.int .i64 (findF ss cl nm).2])∧Fr No w w' :=by
 have hat:=fun c hc=>h.at_ (c:=c) hc;clear h;obtain ⟨w1,hw1⟩:∃w1,w1=w.alloc (.cells #[.int .i64 0,.int .i64 0,.int .i64 0,.string ⟨#[]⟩] TRp):=⟨_,rfl⟩;obtain ⟨g6,hg6⟩:∃g6,g6=w.heap.size:=⟨_,rfl⟩;have hb6:Blk w1 g6 TRp rp0.arr:=by rw [hw1,hg6];exact Blk.new _ _ _
 have f1:Fr No w w1:=by rw [hw1];exact aj _ _
 have hge:w.heap.size≤g6:=by omega
 obtain ⟨HAT,HW1,HG6,HB6,F1⟩:=jq hat hw1 hg6 hb6 f1;clear hat hw1 hg6 hb6 f1
 go_in
 go_upto_region 1 with fail
 rw [←HW1.out,←HG6.out]
 cases c1:decide (cl<1)
 ·cases c2:decide (8<cl)
  ·cases c3:decide (nm<1)
   ·cases c4:decide (1048576<nm)
    ·obtain ⟨c,rfl⟩:∃c:Nat,cl=(c:Int)+1:=⟨(cl-1).toNat,by simp at c1;omega⟩
     have hc8:c<8:=by simp at c2;omega
     obtain ⟨s,hs,s1,s2,hcl⟩:=HAT.out c hc8;have hcc:IntKind.i64.wrap ((c:Int)+1-1)=(c:Int):=by rw [show (c:Int)+1-1=(c:Int) from by omega];exact IntWalk.i64_in _ oy
     have hx1:(c:Int)+1-1=(c:Int):=by omega
     have hfind:findF ss ((c:Int)+1) nm=if nm=s.nm+1 then (rp0,34) else if nm=s.nm then (s.rp,0) else (rp0,32):=by
      unfold findF btw;rw [if_neg (by simp at c3 c4 ⊢;omega),show ((c:Int)+1-1).toNat=c from by omega,List.getD_eq_getElem?_getD,hs]
      rfl
     obtain ⟨zw,⟨ahv,aht,ahu,ahs⟩⟩:=s;simp only at hfind hcl s1 s2;obtain ⟨x0,x1,x2,x3,x4⟩:=hcl w1 F1.out;have HFN:=O hfind;clear hfind hs
     go_upto_region 4 with fail
     obtain ⟨w2,hw2⟩:∃w2,w2=w1.alloc (.cells #[.int .i64 zw,.int .i64 ahv,.int .i64 aht,.int .i64 ahu,.string ahs] 216):=⟨_,rfl⟩;obtain ⟨g8,hg8⟩:∃g8,g8=w1.heap.size:=⟨_,rfl⟩;have hb8:Blk w2 g8 216 #[.int .i64 zw,.int .i64 ahv,.int .i64 aht,.int .i64 ahu,.string ahs]:=by rw [hw2,hg8];exact Blk.new _ _ _
     have f2:Fr No w1 w2:=by rw [hw2];exact aj _ _
     rw [←hw2,←hg8];have ajt :=HB6.out.fr f2 id;have f12:=F1.out.ah f2;obtain ⟨z0,z1,z2,z3⟩:=bZ ajt;simp only [rp0] at z0 z1 z2 z3;have p0:=ajt.frozen 0;have p1:=ajt.frozen 1;have p2:=ajt.frozen 2;have p3:=ajt.frozen 3;have y0:w2.cell? ⟨g8,0,none⟩=some (.int .i64 zw):=hb8.cell 0;have y1:w2.cell? ⟨g8,1,none⟩=some (.int .i64 ahv):=hb8.cell 1;have y2:w2.cell? ⟨g8,2,none⟩=some (.int .i64 aht):=hb8.cell 2;have y3:w2.cell? ⟨g8,3,none⟩=some (.int .i64 ahu):=hb8.cell 3;have y4:w2.cell? ⟨g8,4,none⟩=some (.string ahs):=hb8.cell 4;clear hw2 hg8 hb8 f2 x0 x1 x2 x3 x4 hcl;have HZ:=O (fun p=>iJ p rp0 ajt f12 hge);clear ajt f12
     cases c5:nm == zw+1
     ·cases c6:nm == zw
      ·have HQ:=O (HFN.out.trans ((if_neg (by simpa using c5)).trans (if_neg (by simpa using c6))))
       clear HFN
       go_wp2
       exact bodyPost_ret (v:= .tuple #[.agg (Rp.arr rp0),.int .i64 32]) (dN rp0 _ (.int .i64 32) _ _ ((HZ.out rp0).1) rfl rfl) rfl ⟨by rw [HQ.out],(HZ.out rp0).2⟩
      ·have HQ:=O (HFN.out.trans ((if_neg (by simpa using c5)).trans (if_pos (by simpa using c6))))
       clear HFN
       go_wp2
       exact bodyPost_ret (v:= .tuple #[.agg (Rp.arr ⟨ahv,aht,ahu,ahs⟩),.int .i64 0]) (dN ⟨ahv,aht,ahu,ahs⟩ _ (.int .i64 0) _ _ ((HZ.out ⟨ahv,aht,ahu,ahs⟩).1) rfl rfl) rfl ⟨by rw [HQ.out],(HZ.out ⟨ahv,aht,ahu,ahs⟩).2⟩
     ·have HQ:=O (HFN.out.trans (if_pos (by simpa using c5)))
      clear HFN
      go_wp2
      exact bodyPost_ret (v:= .tuple #[.agg (Rp.arr rp0),.int .i64 34]) (dN rp0 _ (.int .i64 34) _ _ ((HZ.out rp0).1) rfl rfl) rfl ⟨by rw [HQ.out],(HZ.out rp0).2⟩
    ·have HQ:=O (show findF ss cl nm=(rp0,1) from by unfold findF btw;rw [if_pos (by simp at c4 ⊢;omega)])
     obtain ⟨z0,z1,z2,z3⟩:=bZ HB6.out;simp only [rp0] at z0 z1 z2 z3;have p0:=HB6.out.frozen 0;have p1:=HB6.out.frozen 1;have p2:=HB6.out.frozen 2;have p3:=HB6.out.frozen 3
     go_wp2
     exact bodyPost_ret (v:= .tuple #[.agg (Rp.arr rp0),.int .i64 1]) (dN rp0 _ (.int .i64 1) _ _ ((iJ rp0 rp0 HB6.out F1.out hge).1) rfl rfl) rfl ⟨by rw [HQ.out],(iJ rp0 rp0 HB6.out F1.out hge).2⟩
   ·have HQ:=O (show findF ss cl nm=(rp0,1) from by unfold findF btw;rw [if_pos (by simp at c3 ⊢;omega)])
    obtain ⟨z0,z1,z2,z3⟩:=bZ HB6.out;simp only [rp0] at z0 z1 z2 z3;have p0:=HB6.out.frozen 0;have p1:=HB6.out.frozen 1;have p2:=HB6.out.frozen 2;have p3:=HB6.out.frozen 3
    go_wp2
    exact bodyPost_ret (v:= .tuple #[.agg (Rp.arr rp0),.int .i64 1]) (dN rp0 _ (.int .i64 1) _ _ ((iJ rp0 rp0 HB6.out F1.out hge).1) rfl rfl) rfl ⟨by rw [HQ.out],(iJ rp0 rp0 HB6.out F1.out hge).2⟩
  ·have HQ:=O (show findF ss cl nm=(rp0,1) from by unfold findF btw;rw [if_pos (by simp at c2 ⊢;omega)])
   obtain ⟨z0,z1,z2,z3⟩:=bZ HB6.out;simp only [rp0] at z0 z1 z2 z3;have p0:=HB6.out.frozen 0;have p1:=HB6.out.frozen 1;have p2:=HB6.out.frozen 2;have p3:=HB6.out.frozen 3
   go_wp2
   exact bodyPost_ret (v:= .tuple #[.agg (Rp.arr rp0),.int .i64 1]) (dN rp0 _ (.int .i64 1) _ _ ((iJ rp0 rp0 HB6.out F1.out hge).1) rfl rfl) rfl ⟨by rw [HQ.out],(iJ rp0 rp0 HB6.out F1.out hge).2⟩
 ·have HQ:=O (show findF ss cl nm=(rp0,1) from by unfold findF btw;rw [if_pos (by simp at c1 ⊢;omega)])
  obtain ⟨z0,z1,z2,z3⟩:=bZ HB6.out;simp only [rp0] at z0 z1 z2 z3;have p0:=HB6.out.frozen 0;have p1:=HB6.out.frozen 1;have p2:=HB6.out.frozen 2;have p3:=HB6.out.frozen 3
  go_wp2
  exact bodyPost_ret (v:= .tuple #[.agg (Rp.arr rp0),.int .i64 1]) (dN rp0 _ (.int .i64 1) _ _ ((iJ rp0 rp0 HB6.out F1.out hge).1) rfl rfl) rfl ⟨by rw [HQ.out],(iJ rp0 rp0 HB6.out F1.out hge).2⟩
end Go.Proofs.YtodkhcbjpodgeaaGreat
