/-
  Equality of changes; two histories held against each other.
-/
import Derived.Test.YtodkhcbjpodgeaaGreatG26
import Derived.MapKept
namespace Go.Proofs.YtodkhcbjpodgeaaGreat
open Go.ChangeShapes Go.WideShapes Go.ChangeAt Go.RowKit
set_option linter.unusedVariables false
set_option maxRecDepth 100000
set_option maxHeartbeats 4000000
set_option linter.unusedSimpArgs false
variable {w w' :World}{F G:Nat→Prop}
theorem jd (d:Nat)(a b:Int)(W:World):(Op.equalIn (d+1) 3 (.int .i64 a) (.int .i64 b)).run Tryz.prog W= .ok (a == b) W:=by
 simp [Op.equalIn,run_underlying Tryz.underlying3]
theorem ac4 (a b:ByteArray):(a == b)=decide (a=b):=by
 have h:=Go.MapKept.bytes_beq a b
 by_cases e:a=b
 ·rw [decide_eq_true e];exact h.2 e
 ·rw [decide_eq_false e];exact Bool.eq_false_iff.2 (fun k=>e (h.1 k))
theorem jF (d:Nat)(a b:ByteArray)(W:World):(Op.equalIn (d+1) TS_ (.string a) (.string b)).run Tryz.prog W= .ok (decide (a=b)) W:=by
 simp [Op.equalIn,run_underlying Tryz.underlying9]
 exact ac4 a b
def Ch.v (x:Ch):Value:= .agg #[.int .i64 x.ep,.int .i64 x.sq,.int .i64 x.kd,.int .i64 x.cl,.int .i64 x.nm,.int .i64 x.it,.string x.ky,.string x.vl]
theorem agb (e f:Ch)(d:Nat)(W:World):(Op.equalIn (d+1+1) TCh e.v f.v).run Tryz.prog W= .ok (decide (e=f)) W:=by
 obtain ⟨ep,sq,kd,cl,nm,it,ky,vl⟩:=e;obtain ⟨ep',sq',kd',cl',nm',it',ky',vl'⟩:=f;have hp:Tryz.prog.stoodInHeld TCh=false:=by kernel_rfl
 rw [Op.equalIn];simp only [Ch.v,Sem.run_bind,run_underlying Tryz.underlying54,Result.andThen_ok,run_program,hp,Bool.false_eq_true,if_false];have pa0:∀W:World,(part 3 #[.int .i64 ep,.int .i64 sq,.int .i64 kd,.int .i64 cl,.int .i64 nm,.int .i64 it,.string ky,.string vl] 0).run Tryz.prog W= .ok (.int .i64 ep) W:=fun _=>by kernel_rfl
 have pb0:∀W:World,(part 3 #[.int .i64 ep',.int .i64 sq',.int .i64 kd',.int .i64 cl',.int .i64 nm',.int .i64 it',.string ky',.string vl'] 0).run Tryz.prog W= .ok (.int .i64 ep') W:=fun _=>by kernel_rfl
 have pa1:∀W:World,(part 3 #[.int .i64 ep,.int .i64 sq,.int .i64 kd,.int .i64 cl,.int .i64 nm,.int .i64 it,.string ky,.string vl] 1).run Tryz.prog W= .ok (.int .i64 sq) W:=fun _=>by kernel_rfl
 have pb1:∀W:World,(part 3 #[.int .i64 ep',.int .i64 sq',.int .i64 kd',.int .i64 cl',.int .i64 nm',.int .i64 it',.string ky',.string vl'] 1).run Tryz.prog W= .ok (.int .i64 sq') W:=fun _=>by kernel_rfl
 have pa2:∀W:World,(part 3 #[.int .i64 ep,.int .i64 sq,.int .i64 kd,.int .i64 cl,.int .i64 nm,.int .i64 it,.string ky,.string vl] 2).run Tryz.prog W= .ok (.int .i64 kd) W:=fun _=>by kernel_rfl
 have pb2:∀W:World,(part 3 #[.int .i64 ep',.int .i64 sq',.int .i64 kd',.int .i64 cl',.int .i64 nm',.int .i64 it',.string ky',.string vl'] 2).run Tryz.prog W= .ok (.int .i64 kd') W:=fun _=>by kernel_rfl
 have pa3:∀W:World,(part 3 #[.int .i64 ep,.int .i64 sq,.int .i64 kd,.int .i64 cl,.int .i64 nm,.int .i64 it,.string ky,.string vl] 3).run Tryz.prog W= .ok (.int .i64 cl) W:=fun _=>by kernel_rfl
 have pb3:∀W:World,(part 3 #[.int .i64 ep',.int .i64 sq',.int .i64 kd',.int .i64 cl',.int .i64 nm',.int .i64 it',.string ky',.string vl'] 3).run Tryz.prog W= .ok (.int .i64 cl') W:=fun _=>by kernel_rfl
 have pa4:∀W:World,(part 3 #[.int .i64 ep,.int .i64 sq,.int .i64 kd,.int .i64 cl,.int .i64 nm,.int .i64 it,.string ky,.string vl] 4).run Tryz.prog W= .ok (.int .i64 nm) W:=fun _=>by kernel_rfl
 have pb4:∀W:World,(part 3 #[.int .i64 ep',.int .i64 sq',.int .i64 kd',.int .i64 cl',.int .i64 nm',.int .i64 it',.string ky',.string vl'] 4).run Tryz.prog W= .ok (.int .i64 nm') W:=fun _=>by kernel_rfl
 have pa5:∀W:World,(part 3 #[.int .i64 ep,.int .i64 sq,.int .i64 kd,.int .i64 cl,.int .i64 nm,.int .i64 it,.string ky,.string vl] 5).run Tryz.prog W= .ok (.int .i64 it) W:=fun _=>by kernel_rfl
 have pb5:∀W:World,(part 3 #[.int .i64 ep',.int .i64 sq',.int .i64 kd',.int .i64 cl',.int .i64 nm',.int .i64 it',.string ky',.string vl'] 5).run Tryz.prog W= .ok (.int .i64 it') W:=fun _=>by kernel_rfl
 have pa6:∀W:World,(part TS_ #[.int .i64 ep,.int .i64 sq,.int .i64 kd,.int .i64 cl,.int .i64 nm,.int .i64 it,.string ky,.string vl] 6).run Tryz.prog W= .ok (.string ky) W:=fun _=>by kernel_rfl
 have pb6:∀W:World,(part TS_ #[.int .i64 ep',.int .i64 sq',.int .i64 kd',.int .i64 cl',.int .i64 nm',.int .i64 it',.string ky',.string vl'] 6).run Tryz.prog W= .ok (.string ky') W:=fun _=>by kernel_rfl
 have pa7:∀W:World,(part TS_ #[.int .i64 ep,.int .i64 sq,.int .i64 kd,.int .i64 cl,.int .i64 nm,.int .i64 it,.string ky,.string vl] 7).run Tryz.prog W= .ok (.string vl) W:=fun _=>by kernel_rfl
 have pb7:∀W:World,(part TS_ #[.int .i64 ep',.int .i64 sq',.int .i64 kd',.int .i64 cl',.int .i64 nm',.int .i64 it',.string ky',.string vl'] 7).run Tryz.prog W= .ok (.string vl') W:=fun _=>by kernel_rfl
 rw [←Array.forIn_toList];simp only [List.forIn_cons,List.forIn_nil,ne_eq,String.reduceEq,not_false_eq_true,if_true,Sem.run_bind,Result.andThen_ok,jd,pa0,pb0]
 by_cases h0:ep=ep'
 case neg=>simp [h0]
 subst h0;simp only [beq_self_eq_true,decide_true,Bool.not_true,Bool.false_eq_true,if_false,Sem.run_pure,Result.andThen_ok];simp only [Sem.run_bind,pa1,pb1,Result.andThen_ok,jd,jF]
 by_cases h1:sq=sq'
 case neg=>simp [h1]
 subst h1;simp only [beq_self_eq_true,decide_true,Bool.not_true,Bool.false_eq_true,if_false,Sem.run_pure,Result.andThen_ok];simp only [Sem.run_bind,pa2,pb2,Result.andThen_ok,jd,jF]
 by_cases h2:kd=kd'
 case neg=>simp [h2]
 subst h2;simp only [beq_self_eq_true,decide_true,Bool.not_true,Bool.false_eq_true,if_false,Sem.run_pure,Result.andThen_ok];simp only [Sem.run_bind,pa3,pb3,Result.andThen_ok,jd,jF]
 by_cases h3:cl=cl'
 case neg=>simp [h3]
 subst h3;simp only [beq_self_eq_true,decide_true,Bool.not_true,Bool.false_eq_true,if_false,Sem.run_pure,Result.andThen_ok];simp only [Sem.run_bind,pa4,pb4,Result.andThen_ok,jd,jF]
 by_cases h4:nm=nm'
 case neg=>simp [h4]
 subst h4;simp only [beq_self_eq_true,decide_true,Bool.not_true,Bool.false_eq_true,if_false,Sem.run_pure,Result.andThen_ok];simp only [Sem.run_bind,pa5,pb5,Result.andThen_ok,jd,jF]
 by_cases h5:it=it'
 case neg=>simp [h5]
 subst h5;simp only [beq_self_eq_true,decide_true,Bool.not_true,Bool.false_eq_true,if_false,Sem.run_pure,Result.andThen_ok];simp only [Sem.run_bind,pa6,pb6,Result.andThen_ok,jd,jF]
 by_cases h6:ky=ky'
 case neg=>simp [h6]
 subst h6;simp only [beq_self_eq_true,decide_true,Bool.not_true,Bool.false_eq_true,if_false,Sem.run_pure,Result.andThen_ok];simp only [Sem.run_bind,pa7,pb7,Result.andThen_ok,jd,jF]
 by_cases h7:vl=vl'
 case neg=>simp [h7]
 subst h7;simp only [beq_self_eq_true,decide_true,Bool.not_true,Bool.false_eq_true,if_false,Sem.run_pure,Result.andThen_ok]
theorem anp (e f:Ch)(W:World):(binOp .neq TCh e.v f.v).run Tryz.prog W= .ok (.bool (!decide (e=f))) W:=by
 have h:=agb e f 9998 W;unfold Ch.v at*;simp only [binOp]
 simp [Op.equal,Op.maxDepth,h]
theorem aga (op:BinOp)(x y:Operand)(a b:Array Value)(W:World):(eqGuard op TCh x y (.agg a) (.agg b)).run Tryz.prog W= .ok () W:=by
 have hm:Tryz.prog.eqGuardType Tryz.prog.depth TCh=false:=by kernel_rfl
 cases op<;>simp [eqGuard,run_program,hm]
set_option maxHeartbeats 8000000 in
theorem ara {A B:Option Addr}{c d:Nat}{l m:List Ch}(hA:Rd w w.heap.size A (chV l))(hB:Rd w w.heap.size B (chV m))(hl:l.length≤c)(hm:m.length≤d)(hc:c≤maxLen)(hd:d≤maxLen):
  Calls Tryz.prog 56 #[.slice A l.length c,.slice B m.length d] w fun e w' =>e= .returned (.bool (decide (l=m)))∧∃k,w' =w.drewN k:=by
 have aug:=fun i (hi:i<l.length)=>hA.lI hi;have auf:=fun i (hi:i<m.length)=>hB.lI hi;unfold maxLen at hc hd;clear hA hB;obtain ⟨axz,axy⟩:=aN aug auf;clear aug auf
 by_cases hlm:l.length=m.length
 rotate_left
 ·have hn:decide (l=m)=false:=decide_eq_false (fun h=>hlm (by rw [h]))
  rw [hn];have d1:decide (l.length=m.length)=false:=decide_eq_false hlm
  go_in
  go_wp2_with fail
  all_goals go_ret
  all_goals exact ⟨rfl,0,rfl⟩
 ·have d1:decide (l.length=m.length)=true:=decide_eq_true hlm
  have HLM:=O hlm;obtain ⟨n,hn⟩:∃n,n=l.length:=⟨_,rfl⟩;rw [←hn] at hl;rw [←hlm,←hn] at hm;rw [←hlm,←hn];have HN:=O hn;clear hn hlm d1
  go_in
  go_wp2_with fail
  go_loopw [13] (fun iv wr=>∃i:Nat,i≤n∧iv= .int .i64 (i:Int)∧l.take i=m.take i∧Fr No w wr∧∃k,wr=w.drewN k) (fun iv _=>n-(intOf iv).toNat)
  case atStart=>exact ⟨0,by omega,rfl,rfl,Fr.refl _ _,0,rfl⟩
  obtain ⟨i,hi,rfl,htk,hfr,hdr⟩:=hrel;obtain ⟨HTK,HFR,HDR⟩:=bC htk hfr hdr;clear htk hfr hdr
  by_cases hin:i<n
  ·have d2:decide (i<n)=true:=decide_eq_true hin
   obtain ⟨b,off,x,hA,hx,hcx⟩:=axz.out i (by have:=HN.out;omega);obtain ⟨b',off',y,hB,hy,hcy⟩:=axy.out i (by have:=HN.out;have:=HLM.out;omega);subst hA hB;obtain ⟨e0,e1,e2,e3,e4,e5,e6,e7⟩:=hcx wr HFR.out;obtain ⟨f0,f1,f2,f3,f4,f5,f6,f7⟩:=hcy wr HFR.out;have hin' :(i:Int)<(n:Int):=by omega
   have hN:=fun W=>anp x y W;obtain ⟨HX,HY⟩:=aN hx hy;have hxy:Hid (l.take (i+1)=m.take (i+1)↔x=y):=O (by
    rw [List.take_add_one,List.take_add_one,hx,hy,HTK.out]
    simp)
   have hno:Hid (x≠y→decide (l=m)=false):=O (fun h=>decide_eq_false (fun e=>h (by rw [e,hy] at hx;exact (Option.some.inj hx).symm)));obtain ⟨q,hq⟩:∃q,q=decide (x=y):=⟨_,rfl⟩;rw [←hq] at hN;have HQ:=O hq;clear hcx hcy hx hy hq;obtain ⟨x0,x1,x2,x3,x4,x5,x6,x7⟩:=x;obtain ⟨y0,y1,y2,y3,y4,y5,y6,y7⟩:=y;unfold Ch.v at hN;simp only at e0 e1 e2 e3 e4 e5 e6 e7 f0 f1 f2 f3 f4 f5 f6 f7 hN;have hG:=fun (u v:Operand) (V:World)=>aga .neq u v #[.int .i64 x0,.int .i64 x1,.int .i64 x2,.int .i64 x3,.int .i64 x4,.int .i64 x5,.string x6,.string x7] #[.int .i64 y0,.int .i64 y1,.int .i64 y2,.int .i64 y3,.int .i64 y4,.int .i64 y5,.string y6,.string y7] V
   go_upto_region 6 with fail
   go_quiet (fail)
   have hdq:Fr No wr (wr.drewN nq)∧∃k,wr.drewN nq=w.drewN k:=⟨(Fr.refl _ _).drewN _,(by obtain ⟨k,hk⟩:=HDR.out;rw [hk,World.drewN_drewN];exact ⟨_,rfl⟩)⟩;have HDQ:=O hdq;clear hdq e0 e1 e2 e3 e4 e5 e6 e7 f0 f1 f2 f3 f4 f5 f6 f7 hN hG
   rcases q with _|_
   ·have HEQ:=O (hno.out (of_decide_eq_false HQ.out.symm))
    go_wp2_with fail
    go_ret
    exact ⟨(by rw [HEQ.out];rfl),HDQ.out.2⟩
   ·have HEQ:=O (hxy.out.2 (of_decide_eq_true HQ.out.symm))
    go_wp2_with fail
    go_roundw
    case rel=>exact ⟨i+1,by omega,by go_num,HEQ.out,HFR.out.ah HDQ.out.1,HDQ.out.2⟩
    case measure=>simp [intOf];omega
  ·have d2:decide (i<n)=false:=decide_eq_false hin
   obtain rfl:i=n:=by omega
   have heq:decide (l=m)=true:=decide_eq_true (by have:=HTK.out;rwa [HN.out,List.take_length,HLM.out,List.take_length] at this);have HEQ:=O heq;clear heq
   go_wp2_with fail
   go_ret
   exact ⟨(by rw [HEQ.out];rfl),HDR.out⟩
theorem dI {Z:World}{g:Nat}(a b d e:Value):Fr (fun i=>i=g) Z (World.setCell (World.setCell (World.setCell (World.setCell Z ⟨g,0,none⟩ a) ⟨g,1,none⟩ b) ⟨g,2,none⟩ d) ⟨g,3,none⟩ e):=
 ((((Fr.refl (fun i=>i=g) Z).setCell (p:=⟨g,0,none⟩) (.inl rfl) _).setCell (p:=⟨g,1,none⟩) (.inl rfl) _).setCell (p:=⟨g,2,none⟩) (.inl rfl) _).setCell (p:=⟨g,3,none⟩) (.inl rfl) _
set_option maxHeartbeats 8000000 in
theorem acr {p q:Nat}{c d:Kp}(h:aM w F p c)(k:aM w G q d):Calls Tryz.prog 15 #[.pointer (some ⟨p,0,none⟩),.pointer (some ⟨q,0,none⟩)] w fun e w' =>e= .returned (.bool (c.ten == d.ten && decide (c.h=d.h)))∧Fr No w w' :=by
 obtain ⟨s,q1,t,g,Ah,ch,hb,ho,hn,hk⟩:=h.at_;obtain ⟨s',q',t',g',Ah',ch',hb',ho',hn',hk'⟩:=k.at_;have heq:=fun m=>ara (w:=w.drewN m) (l:=c.h) (m:=d.h) (c:=ch) (d:=ch') (ho.rd.au ((Fr.refl No w).drewN m) (Nat.le_refl _)) (ho'.rd.au ((Fr.refl No w).drewN m) (Nat.le_refl _)) ho.cap.1 ho'.cap.1 ho.cap.2 ho'.cap.2;have c0:=hb.cell 1;have c1:=hb.cell 2;have c2:=hb'.cell 1;have c3:=hb'.cell 2;simp only [List.getElem?_toArray,List.getElem?_cons_zero,List.getElem?_cons_succ] at c0 c1 c2 c3;obtain ⟨B,hB⟩:∃B,B=decide (c.h=d.h):=⟨_,rfl⟩;rw [←hB] at heq ⊢;obtain ⟨tc,htc⟩:∃tc,tc=c.ten:=⟨_,rfl⟩;obtain ⟨td,htd⟩:∃td,td=d.ten:=⟨_,rfl⟩;rw [←htc] at c0 ⊢;rw [←htd] at c2 ⊢;obtain ⟨n,hn_⟩:∃n,n=c.h.length:=⟨_,rfl⟩;obtain ⟨n',aqm⟩:∃n,n=d.h.length:=⟨_,rfl⟩;rw [←hn_,←aqm] at heq;rw [←hn_] at c1;rw [←aqm] at c3;clear hb ho hn hk h hb' ho' hn' hk' k htc htd hn_ aqm hB;have HEQ:=O heq;clear heq
 cases d1:tc == td
 all_goals
  go_in
  go_upto_region 1 with fail
  go_quiet (first|(go_at_call 56;exact jI (HEQ.out _)))
  all_goals (try go_wp2_with fail)
  all_goals go_ret
  all_goals exact ⟨rfl,(Fr.refl _ _).drewN _⟩
end Go.Proofs.YtodkhcbjpodgeaaGreat
