/-
  Equality of entries of a log.
-/
import Derived.Test.YtjnfmfmglehmbaaGreatQ21
namespace Go.Proofs.YtjnfmfmglehmbaaGreat
open Go.ChangeShapes Go.WideShapes Go.ChangeAt Go.RowKit
set_option linter.unusedVariables false
set_option maxRecDepth 100000
set_option maxHeartbeats 4000000
theorem zi (x y:Lg)(d:Nat)(W:World):(Op.equalIn (d+1+1+1) TLg x.v y.v).run Tryz.prog W= .ok (decide (x=y)) W:=by
 obtain ⟨t,⟨k,tick,te,ce,ot,ep,fr,un,n⟩⟩:=x;obtain ⟨t',⟨k',iY,te',ce',ot',ep',fr',un',n'⟩⟩:=y;have hp:Tryz.prog.stoodInHeld TLg=false:=by kernel_rfl
 have he:=qP ⟨k,tick,te,ce,ot,ep,fr,un,n⟩ ⟨k',iY,te',ce',ot',ep',fr',un',n'⟩ d;rw [Op.equalIn];simp only [Lg.v,Sem.run_bind,run_underlying Tryz.underlying96,Result.andThen_ok,run_program,hp,Bool.false_eq_true,if_false];have pa0:∀W:World,(part 3 #[.int .i64 t,.int .i64 k,.int .i64 tick,.int .i64 te,.int .i64 ce,.int .i64 ot,.int .i64 ep,.int .i64 fr,.int .i64 un,.int .i64 n] 0).run Tryz.prog W= .ok (.int .i64 t) W:=fun _=>by kernel_rfl
 have pb0:∀W:World,(part 3 #[.int .i64 t',.int .i64 k',.int .i64 iY,.int .i64 te',.int .i64 ce',.int .i64 ot',.int .i64 ep',.int .i64 fr',.int .i64 un',.int .i64 n'] 0).run Tryz.prog W= .ok (.int .i64 t') W:=fun _=>by kernel_rfl
 have pa1:∀W:World,(part dR #[.int .i64 t,.int .i64 k,.int .i64 tick,.int .i64 te,.int .i64 ce,.int .i64 ot,.int .i64 ep,.int .i64 fr,.int .i64 un,.int .i64 n] 1).run Tryz.prog W= .ok (En.v ⟨k,tick,te,ce,ot,ep,fr,un,n⟩) W:=fun _=>by kernel_rfl
 have pb1:∀W:World,(part dR #[.int .i64 t',.int .i64 k',.int .i64 iY,.int .i64 te',.int .i64 ce',.int .i64 ot',.int .i64 ep',.int .i64 fr',.int .i64 un',.int .i64 n'] 1).run Tryz.prog W= .ok (En.v ⟨k',iY,te',ce',ot',ep',fr',un',n'⟩) W:=fun _=>by kernel_rfl
 rw [←Array.forIn_toList];simp only [List.forIn_cons,List.forIn_nil,ne_eq,String.reduceEq,not_false_eq_true,if_true,Sem.run_bind,Result.andThen_ok,dI,pa0,pb0]
 by_cases h0:t=t'
 case neg=>simp [h0]
 subst h0;simp only [beq_self_eq_true,Bool.not_true,Bool.false_eq_true,if_false,Sem.run_pure,Result.andThen_ok];simp only [Sem.run_bind,pa1,pb1,Result.andThen_ok,he]
 by_cases h1:(⟨k,tick,te,ce,ot,ep,fr,un,n⟩:En)=⟨k',iY,te',ce',ot',ep',fr',un',n'⟩
 case neg=>simp [h1]
 rw [h1]
 simp
theorem ahi (x y:Lg)(W:World):(binOp .neq TLg x.v y.v).run Tryz.prog W= .ok (.bool (!decide (x=y))) W:=by
 have h:=zi x y 9997 W;unfold Lg.v at*;simp only [binOp]
 simp [Op.equal,Op.maxDepth,h]
theorem ak6 (x y:Lg)(W:World):(binOp .eql TLg x.v y.v).run Tryz.prog W= .ok (.bool (decide (x=y))) W:=by
 have h:=zi x y 9997 W;unfold Lg.v at*;simp only [binOp]
 simp [Op.equal,Op.maxDepth,h]
theorem uD (op:BinOp)(x y:Operand)(a b:Array Value)(W:World):(eqGuard op TLg x y (.agg a) (.agg b)).run Tryz.prog W= .ok () W:=by
 have hm:Tryz.prog.eqGuardType Tryz.prog.depth TLg=false:=by kernel_rfl
 cases op<;>simp [eqGuard,run_program,hm]
section
section
variable {w w' :World}{F G H:Nat→Prop}{p:Nat}{r:Rs}{s:Js}{n:Nat}
theorem uY {xs ys:List Lg}{k:Nat}{x:Lg}(h:xs.take k=ys.take k)(hx:xs[k]? =some x)(hy:ys[k]? =some x):xs.take (k+1)=ys.take (k+1):=by
 rw [List.take_add_one,List.take_add_one,h,hx,hy]
set_option maxHeartbeats 2000000 in
theorem iJ {A B:Option Addr}{c d:Nat}{xs ys:List Lg}(hA:Ent w G (.slice A xs.length c) xs)(hB:Ent w H (.slice B ys.length d) ys):
  Calls Tryz.prog 17 #[.slice A xs.length c,.slice B ys.length d] w fun e w' =>e= .returned (.bool (decide (xs=ys)))∧Fr No w w' :=by
 have hM:=hA.rd.2.2.2.1;have hM2:=hA.rd.2.2.1;have hM3:=hB.rd.2.2.2.1;have hM4:=hB.rd.2.2.1;unfold maxLen at hM hM3;have ha:=fun i hi=>hA.at_ (i:=i) hi;have hb:=fun i hi=>hB.at_ (i:=i) hi
 by_cases hl:xs.length=ys.length
 ·have t1:(xs.length != ys.length)=false:=by simpa using hl
  have t2:((xs.length:Int) != (ys.length:Int))=false:=by simp;omega
  clear hA hB;generalize hY:decide (xs=ys)=Y at*;rw [←hl] at hM4 t1 t2 ⊢;obtain ⟨HA,HB,HY,HL⟩:=fK ha hb hY hl;clear ha hb hY hl
  go_in
  go_wp2_with fail
  go_loopw [5] (fun i wr=>∃k:Nat,k≤xs.length∧i= .int .i64 k∧xs.take k=ys.take k∧Fr No w wr) (fun i _=>xs.length-(intOf i).toNat)
  case atStart=>exact ⟨0,Nat.zero_le _,rfl,rfl,Fr.refl _ _⟩
  case round=>
   obtain ⟨k,hk,rfl,htk,hf⟩:=hrel
   by_cases hlt:k<xs.length
   ·have b1:decide (k<xs.length)=true:=by simpa using hlt
    have b2:decide ((k:Int)<(xs.length:Int))=true:=by simp;omega
    have hlt2:(k:Int)<(xs.length:Int):=by omega
    obtain ⟨b,off,x,rfl,hx,hxc⟩:=HA.out k hlt;obtain ⟨b',off',y,rfl,hy,hyc⟩:=HB.out k (by rw [←HL.out];exact hlt);obtain ⟨c0,c1,c2,c3,c4,c5,c6,c7,c8,c9⟩:=hxc wr hf;obtain ⟨d0,d1,d2,d3,d4,d5,d6,d7,d8,d9⟩:=hyc wr hf
    by_cases he:x=y
    ·subst he
     have hN:=fun W=>ahi x x W;simp only [decide_true,Bool.not_true] at hN;have hsu:=uY htk hx hy;obtain ⟨t,⟨kd,tick,te,ce,ot,ep,fr,un,nn⟩⟩:=x;unfold Lg.v at hN;simp only at*;have hG:=fun (u v:Operand) (V:World)=>uD .neq u v #[.int .i64 t,.int .i64 kd,.int .i64 tick,.int .i64 te,.int .i64 ce,.int .i64 ot,.int .i64 ep,.int .i64 fr,.int .i64 un,.int .i64 nn] #[.int .i64 t,.int .i64 kd,.int .i64 tick,.int .i64 te,.int .i64 ce,.int .i64 ot,.int .i64 ep,.int .i64 fr,.int .i64 un,.int .i64 nn] V;clear hxc hyc hx hy htk;obtain ⟨HF,HSU⟩:=aO hf hsu;clear hf hsu
     go_wp2_with fail
     go_quiet (fail)
     go_wp2_with fail
     go_roundw
     case rel=>exact ⟨k+1,by omega,by go_num,HSU.out,HF.out.drewN _⟩
     case measure=>simp [intOf];omega
    ·have hN:=fun W=>ahi x y W
     rw [show (decide (x=y))=false from by simpa using he] at hN;simp only [Bool.not_false] at hN;have hYf:false=Y:=by
      rw [←HY.out]
      symm
      rw [decide_eq_false_iff_not];intro hh;rw [hh] at hx;rw [hx] at hy;exact he (Option.some.inj hy)
     obtain ⟨t,⟨kd,tick,te,ce,ot,ep,fr,un,nn⟩⟩:=x;obtain ⟨t',⟨kd',iY,te',ce',ot',ep',fr',un',nn'⟩⟩:=y;unfold Lg.v at hN;simp only at*;have hG:=fun (u v:Operand) (V:World)=>uD .neq u v #[.int .i64 t,.int .i64 kd,.int .i64 tick,.int .i64 te,.int .i64 ce,.int .i64 ot,.int .i64 ep,.int .i64 fr,.int .i64 un,.int .i64 nn] #[.int .i64 t',.int .i64 kd',.int .i64 iY,.int .i64 te',.int .i64 ce',.int .i64 ot',.int .i64 ep',.int .i64 fr',.int .i64 un',.int .i64 nn'] V;clear hxc hyc hx hy htk he;obtain ⟨HF,HYF⟩:=aO hf hYf;clear hf hYf
     go_wp2_with fail
     go_quiet (fail)
     go_wp2_with fail
     go_ret
     exact ⟨au HYF.out,HF.out.drewN _⟩
   ·obtain rfl:k=xs.length:=by omega
    have b1:decide (xs.length<xs.length)=false:=by simp
    have hYt:true=Y:=by
     rw [←HY.out]
     symm
     rw [decide_eq_true_iff];have h2:=HL.out;rw [List.take_length,h2,List.take_length] at htk;exact htk
    clear htk;obtain ⟨HF,HYT⟩:=aO hf hYt;clear hf hYt
    go_wp2_with fail
    go_ret
    exact ⟨au HYT.out,HF.out⟩
 ·have hY:decide (xs=ys)=false:=by
   rw [decide_eq_false_iff_not];intro hh;exact hl (by rw [hh])
  rw [hY];have t1:(xs.length != ys.length)=true:=by simpa using hl
  have t2:((xs.length:Int) != (ys.length:Int))=true:=by simp;omega
  clear hY hl ha hb hA hB
  go_in
  go_wp2_with fail
  go_ret
  exact ⟨rfl,Fr.refl _ _⟩
theorem ac4 (h:RJ w p s n)(hl:s.log.length≤4096):Calls Tryz.prog 15 #[.pointer (some ⟨p,0,none⟩)] w (zM w s.log):=by
 have hf:Calls Tryz.prog 39 #[.pointer (some ⟨p,0,none⟩),.int .i64 0] w (zM w s.log):=ahd h hl 0 (Nat.zero_le _);clear h hl;generalize s.log=l at*;have HF:=O hf;clear hf
 go_in
 go_wp2_with fail
 refine HF.out.mono ?_;rintro e w1 m1;have M:=O m1;obtain ⟨A,c,rfl,-⟩:=m1
 go_wp2_with fail
 go_ret
 exact M.out
end
end
section
theorem sV (l:List Lg)(k:Nat):(dD l).drop (k*10)=dD (l.drop k):=by
 have h1:dD (l.take k++l.drop k)=dD (l.take k)++dD (l.drop k):=by unfold dD;exact List.flatMap_append
 rw [List.take_append_drop] at h1
 rcases Nat.lt_or_ge k l.length with hk|hk
 ·have h2:(dD (l.take k)).length=k*10:=by rw [bg,List.length_take];congr 1;omega
  rw [h1,←h2,List.drop_left]
 ·rw [List.drop_eq_nil_of_le (show l.length≤k by omega),List.drop_eq_nil_of_le (by rw [bg];omega)]
  rfl
theorem Fr.akh {F:Nat→Prop}{a w:World}(h:Fr F a.drew w):Fr F a w:=⟨h.os,h.tape,h.output,h.size,h.block⟩
theorem afh {A:Option Addr}{n c p:Nat}(hp:p≤n)(hc:n≤c)(hA:A=none→n=0):
  ∃A',(∀w:World,(Instr.slice 34 (.slice A n c) (some (.int .i64 (p:Int))) none none).run Tryz.prog w= .ok (.slice A' (n-p) (c-p)) w)∧(A' =none→n-p=0)∧∀(w:World) (B:Nat) (l:List Lg),l.length=n→Rd w B A (dD l)→Rd w B A' (dD (l.drop p)):=by
 have he:Tryz.prog.elem 34=TLg:=by kernel_rfl
 have ht:Tryz.prog.underlying 34=some (.slice TLg):=by kernel_rfl
 obtain ⟨i0,hi0,hz0,hz1,hz2⟩:=info_parts fV;refine ⟨if c=p then A else A.map (·.add (p*10)),fun w=> ?_,fun h=> ?_,fun w B l hl hr=> ?_⟩
 ·rw [run_slice_l w 34 A n c (by rw [he];exact ht) .i64 (p:Int) oy oy,he]
  simp [sizeOf,typeInfo,hi0,hz1,sliced]
 ·split at h
  ·have:=hA h;omega
  ·rcases A with _|a
   ·have:=hA rfl;omega
   ·cases h
 ·rcases hr with h|⟨b,off,rfl,e2,e3⟩
  ·rw [←sV,h,List.drop_nil]
   exact Rd.nil
  ·split
   ·rw [List.drop_eq_nil_of_le oy]
    exact Rd.nil
   ·rw [←sV,Option.map_some,addr_add]
    exact Rd.drop (.inr ⟨b,off,rfl,e2,e3⟩) _
theorem gL.at_ {w0 w:World}{l:List Nat}{v:Value}(h:gL w0 l v w){k:Nat}(hk:k<l.length):∃b c x,v= .slice (some ⟨b,0,none⟩) l.length c∧l.length≤c∧c≤maxLen∧l[k]? =some x∧∀W,Fr No w W→W.cell? ⟨b,k,none⟩=some (.int .i64 (x:Int)):=by
 obtain ⟨A,c,rfl,h1,h2⟩:=h;have hl:=uF l;obtain ⟨x,hx⟩:∃x,l[k]? =some x:=⟨_,List.getElem?_eq_getElem hk⟩;obtain ⟨b,c',e1,c1,c2,-,-,hrow⟩:=h1.row oy;injection e1 with e1 _ e3;subst e1 e3;rw [hl] at c1;exact ⟨b,c,x,rfl,c1,c2,hx,fun W hW=>(hrow W hW k _ (af9 hx)).1⟩
section
variable {w w' w1:World}{F G Fj:Nat→Prop}{p:Nat}{r r' :Rs}{n m:Nat}{V X M:Value}{bs xs ms:List Value}
theorem bR.leads (h:bR w F p r n)(h3:r.role=3):∃j A c bx cx bm cm,r.js.log.length≤c∧c≤maxLen∧r.n≤cx∧cx≤maxLen∧r.n≤cm∧cm≤maxLen∧(A=none→r.js.log.length=0)∧(∀W,Fr No w W→Rd W w.heap.size A (dD r.js.log))∧
  (∀W,Fr No w W→∀i:Int,Calls Tryz.prog 110 #[.pointer (some ⟨j,0,none⟩),.int .i64 i] W fun e w' =>e= .returned (.int .i64 (aD r.js.log i))∧Fr No W w')∧
  ∀W,Fr No w W→
  (W.cell? ⟨p,0,none⟩=some (.pointer (some ⟨j,0,none⟩))∧W.cell? ⟨p,1,none⟩=some (.int .i64 (r.id:Int))∧W.cell? ⟨p,2,none⟩=some (.int .i64 (r.n:Int))∧W.cell? ⟨p,4,none⟩=some (.int .i64 (r.commit:Int))∧W.cell? ⟨p,6,none⟩=some (.slice (some ⟨bx,0,none⟩) r.n cx)∧W.cell? ⟨p,7,none⟩=some (.slice (some ⟨bm,0,none⟩) r.n cm))∧
  (W.cell? ⟨j,1,none⟩=some (.int .i64 r.js.term)∧W.cell? ⟨j,3,none⟩=some (.slice A r.js.log.length c))∧∀i,i<r.n→W.cell? ⟨bx,i,none⟩=some (.int .i64 (r.next i:Int))∧W.cell? ⟨bm,i,none⟩=some (.int .i64 (r.cO i:Int)):=by
 have hid:=h.ok.idn;obtain ⟨j,Fj,V,X,M,bs,xs,ms,h1,h2,hj,h4,h5,h6,h7,h8⟩:=h;obtain ⟨e1,e2⟩:=h7.sx h3;have ox:=h7.ox;have om:=h7.om;rw [e1] at ox;rw [e2] at om;obtain ⟨bx,cx,rfl,x1,x2,-,-,x3⟩:=ox.row (by rw [fU];omega);obtain ⟨bm,cm,rfl,m1,m2,-,-,m3⟩:=om.row (by rw [fU];omega);rw [fU] at x1 m1 h1;rw [fU] at h1;obtain ⟨d,A,c,b1,b2,b3⟩:=hj.open_;obtain ⟨c1,c2⟩:=b3.cap;obtain ⟨A',c',ef,en⟩:=b3.form;injection ef with ef1 _ ef3;subst ef1 ef3;refine ⟨j,A,c,bx,cx,bm,cm,c1,c2,x1,x2,m1,m2,en,fun W hW=>b3.rd.ak hW (Nat.le_refl _),fun W hW i=>pX (hj.ak hW) i,fun W hW=> ?_⟩;have q:=h1.fr hW id;have k:=b1.fr hW id;exact ⟨⟨q.cell 0,q.cell 1,q.cell 2,q.cell 4,q.cell 6,q.cell 7⟩,⟨k.cell 1,k.cell 3⟩,fun i hi=>⟨(x3 W hW i _ (qy hi)).1,(m3 W hW i _ (qy hi)).1⟩⟩
theorem qg (m:Ms)(v:Value)(g:Nat)(ts:Array Value)(W:World)(hb:Blk W g TMs #[.int .i64 m.kind,.int .i64 m.from_,.int .i64 m.to_,.int .i64 m.term,.int .i64 m.index,.int .i64 m.prev,.int .i64 m.commit,.bool m.ok,v])(h2:ts[4]?.getD undef= .pointer (some ⟨g,0,none⟩)):
  (results Tryz.f132 ts).run Tryz.prog W= .ok (m.v v) W:=by
 obtain ⟨c0,c1,c2,c3,c4,c5,c6,c7,c8⟩:=aL hb;clear hb
 simp [results,Tryz.results132,go_sem,h2,c0,c1,c2,c3,c4,c5,c6,c7,c8]
theorem adj {V:World}{g3:Nat}(h:Blk V g3 TMs #[.int .i64 0,.int .i64 0,.int .i64 0,.int .i64 0,.int .i64 0,.int .i64 0,.int .i64 0,.bool false,.slice none 0 0]):(V.cell? ⟨g3,0,none⟩=some (.int .i64 0)∧V.cell? ⟨g3,1,none⟩=some (.int .i64 0)∧V.cell? ⟨g3,2,none⟩=some (.int .i64 0)∧V.cell? ⟨g3,3,none⟩=some (.int .i64 0)∧V.cell? ⟨g3,4,none⟩=some (.int .i64 0)∧V.cell? ⟨g3,5,none⟩=some (.int .i64 0)∧V.cell? ⟨g3,6,none⟩=some (.int .i64 0)∧V.cell? ⟨g3,7,none⟩=some (.bool false)∧V.cell? ⟨g3,8,none⟩=some (.slice none 0 0))∧V.frozen? ⟨g3,0,none⟩=false∧V.frozen? ⟨g3,1,none⟩=false∧V.frozen? ⟨g3,2,none⟩=false∧V.frozen? ⟨g3,3,none⟩=false∧V.frozen? ⟨g3,4,none⟩=false∧V.frozen? ⟨g3,5,none⟩=false∧V.frozen? ⟨g3,6,none⟩=false∧V.frozen? ⟨g3,7,none⟩=false∧V.frozen? ⟨g3,8,none⟩=false:=
 ⟨⟨h.cell 0,h.cell 1,h.cell 2,h.cell 3,h.cell 4,h.cell 5,h.cell 6,h.cell 7,h.cell 8⟩,h.frozen 0,h.frozen 1,h.frozen 2,h.frozen 3,h.frozen 4,h.frozen 5,h.frozen 6,h.frozen 7,h.frozen 8⟩
theorem vF (h:bR w F p r n)(hr:r.role=3)(dst:Nat)(hd:dst<r.n):Calls Tryz.prog 132 #[.pointer (some ⟨p,0,none⟩),.int .i64 (dst:Int)] w (yG w (r.app dst)):=by
 obtain ⟨i0,hi0,hz0,hz1,hz2⟩:=info_parts fV;have hok:=h.ok;have lK:=hok.log.few;have hnx:=hok.nxt hr dst;have h5:=hok.five;obtain ⟨j,A,c,bx,cx,bm,cm,k1,k2,k3,k4,k5,k6,k7,k8,hT,iQ⟩:=h.leads hr;have hT:=fun (W:World) (hW:Fr No w W)=>hT W hW ((r.next dst:Int)-1);have hS:∀W,Fr No w W→(W.cell? ⟨p,0,none⟩=some (.pointer (some ⟨j,0,none⟩))∧W.cell? ⟨p,1,none⟩=some (.int .i64 (r.id:Int))∧W.cell? ⟨p,4,none⟩=some (.int .i64 (r.commit:Int))∧W.cell? ⟨p,6,none⟩=some (.slice (some ⟨bx,0,none⟩) r.n cx)∧W.cell? ⟨j,1,none⟩=some (.int .i64 r.js.term)∧W.cell? ⟨j,3,none⟩=some (.slice A r.js.log.length c)∧W.cell? ⟨bx,dst,none⟩=some (.int .i64 (r.next dst:Int))):=fun W hW=>by
  obtain ⟨⟨a0,a1,a2,a4,a6,a7⟩,⟨b1,b3⟩,z⟩:=iQ W hW;exact ⟨a0,a1,a4,a6,b1,b3,(z dst hd).1⟩
 obtain ⟨A',hsl,hn',apu⟩:=afh (A:=A) (n:=r.js.log.length) (c:=c) (p:=r.next dst) hnx k1 k7;have hrd:=fun (W:World) (hW:Fr No w W)=>apu W w.heap.size _ rfl (k8 W hW);have hone:=pE (r.js.log.drop (r.next dst));have hll:=bg (r.js.log.drop (r.next dst));rw [List.length_drop] at hll;unfold Rs.app;generalize r.js.term=t at*;generalize (r.id:Int)=id at*;generalize aD r.js.log ((r.next dst:Int)-1)=pt at*;generalize (r.commit:Int)=cm' at*;generalize hes:r.js.log.drop (r.next dst)=es at*;have hel:es.length=r.js.log.length-r.next dst:=by rw [←hes,List.length_drop]
 generalize r.next dst=nd at*;generalize r.js.log.length=ll at*;have hwr:IntKind.i64.wrap ((nd:Int)-1)=(nd:Int)-1:=IntWalk.i64_in _ oy;have hb0:(dst:Int)<(r.n:Int):=by omega
 unfold maxLen at k2 k4;clear h hok hr iQ hes apu k7 k8;obtain ⟨W0,hW0⟩:∃W0,W0=w.alloc (.cells #[.int .i64 0,.int .i64 0,.int .i64 0,.int .i64 0,.int .i64 0,.int .i64 0,.int .i64 0,.bool false,.slice none 0 0] TMs):=⟨_,rfl⟩;obtain ⟨g,hg⟩:∃g,g=w.heap.size:=⟨_,rfl⟩;have hf0:Fr No w W0:=by rw [hW0];exact aj _ _
 have hb:Blk W0 g TMs #[.int .i64 0,.int .i64 0,.int .i64 0,.int .i64 0,.int .i64 0,.int .i64 0,.int .i64 0,.bool false,.slice none 0 0]:=by rw [hW0,hg];exact Blk.new _ _ _
 obtain ⟨a0,a1,a4,a6,b1,b3,z⟩:=hS W0 hf0;have hz0' :=hS _ (aj w (.cells #[.int .i64 0,.int .i64 0,.int .i64 0,.int .i64 0,.int .i64 0,.int .i64 0,.int .i64 0,.bool false,.slice none 0 0] TMs));have hgw:w.heap.size≤g:=by rw [hg];exact Nat.le_refl _
 obtain ⟨HS,HT,HW0,HG,HB,HRD,zL,HLL,HEL⟩:=aap hS hT hW0 hg hb hrd hone hll hel;have HN' :=O hn';clear hS hT hW0 hg hb hrd hone hll hel hn'
 go_in
 obtain ⟨y0,y1,y4,y6,yb1,yb3,yz⟩:=hz0'
 go_wp2_with fail
 rw [←HW0.out,←HG.out];clear y0 y1 y4 y6 yb1 yb3 yz
 go_region_held3 (fun V=>V.cell? ⟨p,0,none⟩=some (.pointer (some ⟨j,0,none⟩))∧V.cell? ⟨p,1,none⟩=some (.int .i64 id)∧V.cell? ⟨p,4,none⟩=some (.int .i64 cm')∧V.cell? ⟨p,6,none⟩=some (.slice (some ⟨bx,0,none⟩) r.n cx)∧V.cell? ⟨j,1,none⟩=some (.int .i64 t)∧V.cell? ⟨j,3,none⟩=some (.slice A ll c)∧V.cell? ⟨bx,dst,none⟩=some (.int .i64 (nd:Int))) (first|exact HS.out _ (by repeat (with_reducible first|assumption|exact Fr.refl _ _|refine Fr.alloc ?_ _|refine Fr.drew ?_|refine Fr.drewN ?_ _|refine Fr.setCell ?_ (.inr (by assumption)) _))) (first
  |(go_at_call 110;refine (HT.out _ (by repeat (with_reducible first|assumption|exact Fr.refl _ _|refine Fr.alloc ?_ _|refine Fr.drew ?_|refine Fr.drewN ?_ _|refine Fr.setCell ?_ (.inr (by assumption)) _))).mono ?_;rintro e w2 ⟨rfl,f2⟩;have Q2:Fr No W0 w2:=Fr.ah (by repeat (with_reducible first|assumption|exact Fr.refl _ _|refine Fr.alloc ?_ _|refine Fr.drew ?_|refine Fr.drewN ?_ _|refine Fr.setCell ?_ (.inr (by assumption)) _)) f2;have P2:Fr No w w2:=hf0.ah Q2;try replace f2:=Fr.akh f2;obtain ⟨⟨z0,z1,z2,z3,z4,z5,z6,z7,z8⟩,zf0,zf1,zf2,zf3,zf4,zf5,zf6,zf7,zf8⟩:=adj (HB.out.fr Q2 (fun h=>h)))
  |(refine bf _ rfl (.tmp 37) (.tmp 46) _ rfl 0 TLg i0 _ 10 80 Tryz.underlying34 hi0 hz0 hz1 hz2 rfl dcd (.slice (some ⟨_,0,none⟩) 0 0) 0 [] (by rfl) (aip (Blk.fr (F:=No) (Blk.new _ _ _) (by repeat (with_reducible first|assumption|exact Fr.refl _ _|refine Fr.alloc ?_ _|refine Fr.drew ?_|refine Fr.drewN ?_ _|refine Fr.setCell ?_ (.inr (by assumption)) _)) (fun h=>h))).1 w.heap.size A' (ll-nd) (c-nd) (dD es) (by rfl) HN'.out (HRD.out _ (by repeat (with_reducible first|assumption|exact Fr.refl _ _|refine Fr.alloc ?_ _|refine Fr.drew ?_|refine Fr.drewN ?_ _|refine Fr.setCell ?_ (.inr (by assumption)) _))) HLL.out zL.out mxl oy (Nat.zero_le _) ?_;intro v1 w1 happ;obtain ⟨o1,f1b,Q1⟩:=bG.app1 (w:=W0) (by repeat (with_reducible first|assumption|exact Fr.refl _ _|refine Fr.alloc ?_ _|refine Fr.drew ?_|refine Fr.drewN ?_ _|refine Fr.setCell ?_ (.inr (by assumption)) _)) (Fr.size (F:=No) (by repeat (with_reducible first|assumption|exact Fr.refl _ _|refine Fr.alloc ?_ _|refine Fr.drew ?_|refine Fr.drewN ?_ _|refine Fr.setCell ?_ (.inr (by assumption)) _))) (Blk.fr (F:=No) (Blk.new _ _ _) (by repeat (with_reducible first|assumption|exact Fr.refl _ _|refine Fr.alloc ?_ _|refine Fr.drew ?_|refine Fr.drewN ?_ _|refine Fr.setCell ?_ (.inr (by assumption)) _)) (fun h=>h)) happ;have P1:Fr No w w1:=hf0.ah Q1;obtain ⟨A1,c1,rfl,-⟩:=o1.form;have O1:=O o1;obtain ⟨⟨y0,y1,y2,y3,y4,y5,y6,y7,y8⟩,yf0,yf1,yf2,yf3,yf4,yf5,yf6,yf7,yf8⟩:=adj (HB.out.fr Q1 (fun h=>h));clear happ f1b o1))
 all_goals
  go_wp2_with fail
  have he:=O1.out;rw [←HEL.out] at he ⊢;refine bodyPost_ret (v:=Ms.v ⟨3,id,dst,t,nd,pt,cm',false,es⟩ (.slice A1 es.length c1)) (qg ⟨3,id,dst,t,nd,pt,cm',false,es⟩ _ g _ _ (qz ⟨3,id,dst,t,nd,pt,cm',false,es⟩ (.slice A1 es.length c1) (HB.out.fr (F:=No) (by repeat (with_reducible first|assumption|exact Fr.refl _ _|refine Fr.alloc ?_ _|refine Fr.drew ?_|refine Fr.drewN ?_ _|refine Fr.setCell ?_ (.inr (by assumption)) _)) (fun h=>h))) rfl) rfl ⟨_,rfl,?_,kU ⟨3,id,dst,t,nd,pt,cm',false,es⟩ (.slice A1 es.length c1) (by repeat (with_reducible first|assumption|exact Fr.refl _ _|refine Fr.alloc ?_ _|refine Fr.drew ?_|refine Fr.drewN ?_ _|refine Fr.setCell ?_ (.inr (by assumption)) _)) hgw⟩;have hgl:=HB.out.lt;have hs0:=hf0.size;exact ((Ent.iW he).fr (mo (F:=fun i=>i=g) ⟨3,id,dst,t,nd,pt,cm',false,es⟩ (.slice A1 es.length c1) (Fr.mono (F:=No) (by repeat (with_reducible first|assumption|exact Fr.refl _ _|refine Fr.alloc ?_ _|refine Fr.drew ?_|refine Fr.drewN ?_ _|refine Fr.setCell ?_ (.inr (by assumption)) _)) fun _ h=>h.elim) rfl) fun i hi hh=>by have hi2:W0.heap.size≤i:=hi;omega).mono fun i hi=>by have hi2:W0.heap.size≤i:=hi;omega
end
end
section
theorem aeo {r:Rs}(hl:ig r.js.log r.js.term)(h0:0≤r.js.term):∀m:Nat,m<r.js.log.length→aD r.js.log (m:Int)≠r.js.term→r.lg (m+1)=r.commit:=by
 intro m
 induction m with
 |zero=>
  intro hm hne;simp only [Rs.lg]
  split
  ·rfl
  ·rw [if_neg fun h=>hne h.1]
 |succ m ih=>
  intro hm hne;have h1:=hl.mono (i:=m) (j:=m+1) oy hm;have h2:=hl.abn h0 ((m+1:Nat):Int);have h3:=ih oy oy;rw [Rs.lg]
  split
  ·rfl
  ·rw [if_neg fun h=>hne h.1]
   exact h3
theorem aer (r:Rs)(m:Nat)(h:m≤r.commit):r.lg m=r.commit:=by
 cases m with
 |zero=>rfl
 |succ m=>rw [Rs.lg,if_pos h]
theorem ajm (r:Rs)(m:Nat)(h:r.commit<m+1)(ht:aD r.js.log (m:Int)=r.js.term):r.lg (m+1)=if r.n<2*r.stores (m+1) r.n then m+1 else r.lg m:=by
 rw [Rs.lg,if_neg oy]
 by_cases h2:r.n<2*r.stores (m+1) r.n
 ·rw [if_pos ⟨ht,h2⟩,if_pos h2]
 ·rw [if_neg fun hh=>h2 hh.2,if_neg h2]
def wE (f:Nat→Nat)(m:Nat)(l:List Nat):Nat:=1+(l.filter fun x=>decide (m≤f x)).length
theorem wD (f:Nat→Nat)(m:Nat)(l:List Nat)(x:Nat):wE f m (l++[x])=wE f m l+if m≤f x then 1 else 0:=by
 unfold wE;rw [List.filter_append,List.length_append]
 by_cases h:m≤f x<;>simp [h];omega
theorem aeh (f:Nat→Nat)(m:Nat)(l:List Nat):wE f m l≤1+l.length:=by
 unfold wE;have:=List.length_filter_le (fun x=>decide (m≤f x)) l
 omega
theorem tQ (r:Rs)(m:Nat):∀k,r.stores m k=wE r.cO m (others r.id k):=by
 intro k
 induction k with
 |zero=>rfl
 |succ k ih=>
  rw [jB,Rs.stores,ih]
  by_cases h:k=r.id
  ·rw [if_pos h,List.append_nil,if_neg fun hh=>hh.1 h,Nat.add_zero]
  ·rw [if_neg h,wD]
   by_cases h2:m≤r.cO k<;>simp [h,h2]
section
variable {w w' w1:World}{F G Fj:Nat→Prop}{p:Nat}{r r' :Rs}{n m:Nat}{V X M:Value}{bs xs ms:List Value}
theorem uf (h:bR w F p r n)(hr:r.role=3):Calls Tryz.prog 97 #[.pointer (some ⟨p,0,none⟩)] w (fF w r.gF):=by
 obtain ⟨i1,hi1,hz0,hz1,hz2⟩:=info_parts jY;have hC:∀W,Fr No w W→∀k,k<r.n→Calls Tryz.prog 132 #[.pointer (some ⟨p,0,none⟩),.int .i64 (k:Int)] W (yG W (r.app k)):=fun W hW k hk=>vF (h.ak hW) hr k hk;have h5:=h.ok.five;have hO:=pV h;have hmem:∀x∈others r.id r.n,x<r.n:=fun x hx=>(kP.1 hx).1;have hol:=iF r.id r.n;unfold Rs.gF;generalize others r.id r.n=L at*;clear h;obtain ⟨HC,HO,ao4⟩:=bP hC hO hmem;clear hC hO hmem
 go_in
 go_wp2_with fail
 refine HO.out.mono ?_;rintro e w1 ⟨v,rfl,hi⟩;obtain ⟨A1,c1,rfl,-,hf1⟩:=id hi;obtain ⟨HI,HF1⟩:=aO hi hf1;clear hi hf1;clear HO
 go_wp2_with fail
 go_loopw [3,5] (fun v i wr=>∃k:Nat,k≤L.length∧i= .int .i64 k∧Lst w1 ((L.take k).map r.app) v wr) (fun _ i _=>L.length-(intOf i).toNat)
 case atStart=>exact ⟨0,Nat.zero_le _,rfl,Lst.nil _⟩
 case round=>
  obtain ⟨k,hk,rfl,rM⟩:=hrel
  by_cases hlt:k<L.length
  ·have d1:decide (k<L.length)=true:=decide_eq_true hlt
   have d2:decide ((k:Int)<(L.length:Int))=true:=dtt;have hk2:(k:Int)<(L.length:Int):=by omega
   obtain ⟨bL,cL,x,eL,e1,e2,hx,hcx⟩:=HI.out.at_ hlt;injection eL with eL _ eL3;subst eL eL3;unfold maxLen at e2;have hxn:=ao4.out x (List.mem_of_getElem? hx);obtain ⟨ms,hms⟩:∃ms,ms=(L.take k).map r.app:=⟨_,rfl⟩;have hml:ms.length≤5:=by rw [hms,List.length_map,List.length_take];omega
   have hnx:(L.take (k+1)).map r.app=ms++[r.app x]:=by rw [List.take_add_one,hx,List.map_append,hms];rfl
   rw [←hms] at rM;obtain ⟨⟨A,c,rfl⟩,⟨Gs,Ge,vs,q1,q2,q3⟩,q4⟩:=rM;have hcw:=hcx wr q4;have hsn:=fun (W2 W3:World) (v' x:Value) (m:Ms) (hf2:Fr No wr W2) hx (ha:bN W2 0 TMs 9 (.slice A ms.length c) ms.length (msV ms vs) (m.cells x) 1 v' W3)=>gB.snoc (G:=fun b=>w1.heap.size≤b) (W:=wr) (m:=m) (x:=x) q1 (fun i hi=>by have:=q4.size;omega) q2 q3 hf2 hx ha;have hown:=fun W (hf:Fr No wr W)=>(q1.own.ak hf).1;have hG:=q2;have Q4:=O q4;have hCk:=HC.out wr (HF1.out.ah q4) x hxn;clear q1 q2 q3 q4 hms hx hcx hxn;generalize r.app x=m at*;obtain ⟨HSN,HOWN,HG,HNX,HCK⟩:=jr hsn hown hG hnx hCk;clear hsn hown hG hnx hCk
   go_wp2_with fail
   refine HCK.out.mono ?_;rintro e w5 ⟨y,rfl,hy,f5⟩;obtain ⟨HY,F5⟩:=aO hy f5;clear hy f5
   go_wp2_with (at_builtin;refine bK _ rfl (.tmp 14) (.tmp 21) _ rfl 0 TMs i1 _ 9 88 Tryz.underlying63 hi1 hz0 hz1 hz2 rfl dcd (.slice A ms.length c) ms.length (msV ms vs) rfl (HOWN.out _ (F5.out.alloc _)) (w5.heap.size+1) (some ⟨w5.heap.size,0,none⟩) 1 1 (Ms.cells m y) rfl ?ka1 ?ka2 ?ka3 ?ka4 ?ka5 ?ka6 ?ka7 ?_)
   case ka1=>exact fun h=>by cases h
   case ka2=>exact Rd.new _ _ _ rfl
   case ka3=>rfl
   case ka4=>exact sS m HY.out
   case ka5=>unfold maxLen;omega
   case ka6=>omega
   case ka7=>exact Nat.zero_le _
   intro v1 w6 happ;obtain ⟨A',c',rfl,-⟩:=aC happ.1;obtain ⟨hl,f6⟩:=HSN.out _ _ _ y m (F5.out.alloc _) (HY.out.ak (aj _ _)) happ;have Q6:=O ((Q4.out.ah (F5.out.alloc _)).aA f6 HG.out);clear happ f6;have HL:=O hl;clear hl
   go_wp2_with fail
   go_roundw
   case rel=>exact ⟨k+1,by omega,by go_num,⟨A',c',by rw [HNX.out,List.length_append];rfl⟩,by rw [HNX.out];exact HL.out,Q6.out⟩
   case measure=>simp [intOf];omega
  ·obtain rfl:k=L.length:=by omega
   have d1:decide (L.length<L.length)=false:=by simp
   have d2:decide ((L.length:Int)<(L.length:Int))=false:=by simp
   rw [List.take_length] at rM;obtain ⟨⟨A,c,rfl⟩,a2,a3⟩:=rM;have T9:=O (show fF w (L.map r.app) (.returned (.slice A (L.map r.app).length c)) wr from ⟨A,c,rfl,a2.mono fun i hi=>Nat.le_trans HF1.out.size hi,HF1.out.ah a3⟩);clear a2 a3
   go_wp2_with fail
   go_ret
   exact T9.out
theorem sH (h:bR w F p r n)(hr:r.role=3):Calls Tryz.prog 96 #[.pointer (some ⟨p,0,none⟩)] w fun e w' =>e= .returned (.tuple #[])∧bY w F p r.advance n w' :=by
 have hok:=h.ok;have h5:=hok.five;have lK:=hok.log.few;have hcom:=hok.com;have hO:=fun W (hf:Fr No w W)=>pV (h.ak hf);have hmem:∀x∈others r.id r.n,x<r.n:=fun x hx=>(kP.1 hx).1;have hol:=iF r.id r.n;have hstop:=fun m hm ht=>aeo hok.log hok.lo m hm ht;have hsame:=fun W (hf:Fr No w W)=>h.still hf;obtain ⟨j,A,c,bx,cx,bm,cm,k1,k2,k3,k4,k5,k6,k7,k8,hT,iQ⟩:=h.leads hr;have hput:∀W (m:Nat),Fr No w W→m≤r.js.log.length→W.frozen? ⟨p,4,none⟩=false∧bY w F p {r with commit:=m} n (W.setCell ⟨p,4,none⟩ (.int .i64 (m:Int))):=fun W m hf hm=>by
  obtain ⟨j,Fj,V,X,M,bs,xs,ms,h1,h2,h3,h4,h5,h6,h7,h8⟩:=h.ak hf;refine ⟨h1.frozen 4,bY.after hf (bR.cells (r:=r) (r' :={r with commit:=m}) h1 h2 h3 h4 h5 h6 h7 ((Fr.refl (fun i=>i=p) W).setCell (p:=⟨p,4,none⟩) (.inl rfl) _) ((h1.aU 4 _).conv rfl) rfl (h7.same rfl rfl rfl rfl rfl) ⟨h8.log,h8.lo,h8.hi,h8.vlo,h8.vhi,h8.idn,h8.five,h8.role,hm,h8.vts,h8.nxt,h8.mts⟩)⟩
 have hlow:∀m,m≤r.commit→r.lg m=r.commit:=aer r;have hup:∀m:Nat,r.commit<m→aD r.js.log ((m:Int)-1)=r.js.term→r.lg m=if r.n<2*wE r.cO m (others r.id r.n) then m else r.lg (m-1):=fun m hm ht=>by
  obtain ⟨k,rfl⟩:∃k,m=k+1:=⟨m-1,by omega⟩;have:=ajm r k hm (by rw [←ht];congr 1;omega);rw [this,tQ]
  rfl
 have ahj:∀m:Nat,0<m→m≤r.js.log.length→aD r.js.log ((m:Int)-1)≠r.js.term→r.lg m=r.commit:=fun m h0 hm ht=>by
  obtain ⟨k,rfl⟩:∃k,m=k+1:=⟨m-1,by omega⟩;exact hstop k oy fun hh=>ht (by rw [←hh];congr 1;omega)
 unfold Rs.advance;generalize others r.id r.n=L at*;obtain ⟨ADV,aog⟩:∃x,x=r.lg r.js.log.length:=⟨_,rfl⟩;rw [←aog];clear h hok k7 k8 hstop;unfold maxLen at k2 k4 k6;obtain ⟨⟨a0,a1,a2,a4,a6,a7⟩,⟨b1,b3⟩,-⟩:=iQ w (Fr.refl _ _);obtain ⟨HO,ao4,amq,kG,HT,aor,wP,asz,HUP,abg⟩:=lH hO hmem ahj hsame hT iQ hput hlow hup aog;clear hO hmem ahj hsame hT iQ hput hlow hup aog
 go_in
 go_wp2_with fail
 go_loopw [2] (fun mv wr=>∃m:Nat,m≤r.js.log.length∧mv= .int .i64 m∧ADV=r.lg m∧Fr No w wr) (fun mv _=>(intOf mv).toNat)
 case atStart=>exact ⟨_,Nat.le_refl _,rfl,abg.out,Fr.refl _ _⟩
 case round=>
  clear a0 a1 a2 a4 a6 a7 b1 b3;obtain ⟨m,hm,rfl,uS,hf⟩:=hrel;obtain ⟨⟨a0,a1,a2,a4,a6,a7⟩,⟨b1,b3⟩,-⟩:=aor.out wr hf
  by_cases hcm:m≤r.commit
  ·have d1:decide (r.commit<m)=false:=dff
   have d2:decide ((r.commit:Int)<(m:Int))=false:=dff;have T9:=O (show bY w F p {r with commit:=ADV} n wr from by rw [uS,asz.out m hcm];exact kG.out wr hf);clear uS hf hcm
   go_wp2_with fail
   go_end0
   exact ⟨rfl,T9.out⟩
  have d1:decide (r.commit<m)=true:=dtt;have d2:decide ((r.commit:Int)<(m:Int))=true:=dtt;have hwr:IntKind.i64.wrap ((m:Int)-1)=(m:Int)-1:=IntWalk.i64_in _ oy;have hTm:=fun W (hW:Fr No wr W)=>HT.out W (hf.ah hW) ((m:Int)-1);have hS:∀W,Fr No wr W→(W.cell? ⟨p,0,none⟩=some (.pointer (some ⟨j,0,none⟩))∧W.cell? ⟨j,1,none⟩=some (.int .i64 r.js.term)):=fun W hW=>by
   obtain ⟨⟨a0,-⟩,⟨b1,-⟩,-⟩:=aor.out W (hf.ah hW);exact ⟨a0,b1⟩
  have hwd:=hS wr.drew (Fr.refl _ _).drew
  by_cases ht:aD r.js.log ((m:Int)-1)=r.js.term
  case neg=>
   have u1:(aD r.js.log ((m:Int)-1) != r.js.term)=true:=by simpa using ht
   have T9:=O (show ∀W,Fr No w W→bY w F p {r with commit:=ADV} n W from fun W hW=>by rw [uS,amq.out m oy hm ht];exact kG.out W hW);generalize aD r.js.log ((m:Int)-1)=pt at*;have HF:=O hf;clear uS ht a1 a2 a6 a7 b3;obtain ⟨HTM,HS,HWD⟩:=bP hTm hS hwd;clear hTm hS hwd
   go_wp2_with fail
   go_region_held3 (fun V=>V.cell? ⟨p,0,none⟩=some (.pointer (some ⟨j,0,none⟩))∧V.cell? ⟨j,1,none⟩=some (.int .i64 r.js.term)) (first|exact HWD.out|exact HS.out _ frz) (first
    |(go_at_call 110;refine (HTM.out _ frz).mono ?_;rintro e w2 ⟨rfl,f2⟩;have Q2:Fr No wr w2:=Fr.ah frz f2;clear f2))
   all_goals
    go_wp2_with fail
    exact bodyPost_ret (v:= .tuple #[]) (by simp [results,Tryz.results96,go_sem]) rfl ⟨rfl,T9.out _ (HF.out.ah frz)⟩
  case pos=>
   have u1:(aD r.js.log ((m:Int)-1) != r.js.term)=false:=by simpa using ht
   have hup:=HUP.out m oy ht;rw [←uS] at hup;generalize aD r.js.log ((m:Int)-1)=pt at*;have HF:=O hf;clear uS ht a1 a2 a6 a7 b3;obtain ⟨HTM,HS,HWD,HUP⟩:=fK hTm hS hwd hup;clear hTm hS hwd hup
   go_wp2_with fail
   go_region_held3 (fun V=>V.cell? ⟨p,0,none⟩=some (.pointer (some ⟨j,0,none⟩))∧V.cell? ⟨j,1,none⟩=some (.int .i64 r.js.term)) (first|exact HWD.out|exact HS.out _ frz) (first
    |(go_at_call 110;refine (HTM.out _ frz).mono ?_;rintro e w2 ⟨rfl,f2⟩;have Q2:Fr No wr w2:=Fr.ah frz f2;clear f2))
   all_goals
    go_wp2_with fail
    refine (HO.out _ (HF.out.ah frz)).mono ?_;rintro e w5 ⟨v,rfl,hi⟩;obtain ⟨A1,c1,rfl,-,f5⟩:=id hi;have F5:=O (HF.out.ah (Fr.ah (w' :=w2) frz f5));have hcl:=aeh r.cO m L;clear f5 a0 a4 b1;have HI:=O hi;clear hi
    go_wp2_with fail
    go_loopw [3,5] (fun nv iv V=>∃k:Nat,k≤L.length∧iv= .int .i64 k∧nv= .int .i64 (wE r.cO m (L.take k):Int)∧Fr No w5 V) (fun _ iv _=>L.length-(intOf iv).toNat)
    case atStart=>exact ⟨0,Nat.zero_le _,rfl,rfl,Fr.refl _ _⟩
    case round=>
     obtain ⟨k,hk,rfl,rfl,hfr⟩:=hrel;obtain ⟨⟨a0,a1,a2,a4,a6,a7⟩,⟨b1,b3⟩,z⟩:=aor.out wr (F5.out.ah hfr)
     by_cases hlt:k<L.length
     ·have e1:decide (k<L.length)=true:=decide_eq_true hlt
      have e2:decide ((k:Int)<(L.length:Int))=true:=dtt;have e3:(k:Int)<(L.length:Int):=by omega
      obtain ⟨bL,cL,x,eL,g1,g2,hx,hcx⟩:=HI.out.at_ hlt;injection eL with eL _ eL3;subst eL eL3;unfold maxLen at g2;have hxn:=ao4.out x (List.mem_of_getElem? hx);have hxi:(x:Int)<(r.n:Int):=by omega
      have cx1:=hcx wr hfr;have cx2:=(z x hxn).2;have hcs:=wD r.cO m (L.take k) x;have hct:L.take (k+1)=L.take k++[x]:=by rw [List.take_add_one,hx];rfl
      rw [←hct] at hcs;have hle:=aeh r.cO m (L.take k);rw [List.length_take] at hle;have HFR:=O hfr
      by_cases hmx:m≤r.cO x
      ·rw [if_pos hmx] at hcs
       have e4:decide (m≤r.cO x)=true:=decide_eq_true hmx;have e5:decide ((m:Int)≤(r.cO x:Int))=true:=dtt;generalize r.cO x=mx at*;generalize wE r.cO m (L.take k)=C at*;clear hcx hx hct z hfr a0 a1 a2 a4 a6 b1 b3 hmx;have HCS:=O hcs;clear hcs
       go_wp2_with fail
       go_quiet (fail)
       go_wp2_with fail
       go_roundw
       case rel=>exact ⟨k+1,by omega,by go_num,by rw [HCS.out];go_num,HFR.out.drewN _⟩
       case measure=>simp [intOf];omega
      ·rw [if_neg hmx] at hcs
       have e4:decide (m≤r.cO x)=false:=decide_eq_false hmx;have e5:decide ((m:Int)≤(r.cO x:Int))=false:=dff;generalize r.cO x=mx at*;generalize wE r.cO m (L.take k)=C at*;clear hcx hx hct z hfr a0 a1 a2 a4 a6 b1 b3 hmx;have HCS:=O hcs;clear hcs
       go_wp2_with fail
       go_quiet (fail)
       go_wp2_with fail
       go_roundw
       case rel=>exact ⟨k+1,by omega,by go_num,by rw [HCS.out];rfl,HFR.out.drewN _⟩
       case measure=>simp [intOf];omega
     obtain rfl:k=L.length:=by omega
     have e1:decide (L.length<L.length)=false:=by simp
     have e2:decide ((L.length:Int)<(L.length:Int))=false:=by simp
     rw [List.take_length];have hFw:=F5.out.ah hfr
     by_cases hmj:r.n<2*wE r.cO m L
     ·have e4:decide (r.n<2*wE r.cO m L)=true:=decide_eq_true hmj
      have e5:decide ((r.n:Int)<2*(wE r.cO m L:Int))=true:=dtt;have hup:=HUP.out;rw [if_pos hmj] at hup;subst hup;obtain ⟨y4,t9⟩:=wP.out wr ADV hFw hm;have T9:=O t9;generalize wE r.cO ADV L=C at*;clear t9 hmj hfr hFw a0 a1 a6 a7 b1 b3 z
      go_wp2_with fail
      exact bodyPost_ret (v:= .tuple #[]) (by simp [results,Tryz.results96,go_sem]) rfl ⟨rfl,T9.out⟩
     ·have e4:decide (r.n<2*wE r.cO m L)=false:=decide_eq_false hmj
      have e5:decide ((r.n:Int)<2*(wE r.cO m L:Int))=false:=dff;have hup:=HUP.out;rw [if_neg hmj] at hup;obtain ⟨T9,FW⟩:=aO hup hFw;generalize wE r.cO m L=C at*;clear hup hmj hfr hFw a0 a1 a6 a7 b1 b3 z
      go_wp2_with fail
      go_roundw
      case rel=>exact ⟨m-1,by omega,by congr 1;omega,T9.out,FW.out⟩
      case measure=>simp [intOf];omega
end
end
section
theorem adn (n:Nat):madeCells (Value.int .i64 0).cells (n*1)=(dN (fun _=>0) n).toArray:=by
 unfold madeCells dN
 apply Array.ext
 ·simp
 ·intro i h1 h2
  simp [Value.cells,Nat.mod_one]
theorem aam (n:Nat):madeCells (Value.bool false).cells (n*1)=(jc 0 n).toArray:=by
 unfold madeCells jc
 apply Array.ext
 ·simp
 ·intro i h1 h2
  simp [Value.cells,Nat.mod_one]
theorem tV (n:Nat)(hn:n≤5)(w:World):(Instr.makeSlice 81 (.int .i64 (n:Int)) (.int .i64 (n:Int))).run Tryz.prog w= .ok (.slice (some ⟨w.heap.size,0,none⟩) n n) (w.alloc (.cells (dN (fun _=>0) n).toArray TIn)):=by
 obtain ⟨i1,hi1,hz0,hz1,hz2⟩:=info_parts qH;have h:=run_make (P:=Tryz.prog) w 81 TIn i1 _ Tryz.underlying81 hi1 hz0 .i64 .i64 (n:Int) (n:Int) oy (Int.le_refl _) (by rw [hz2];omega) oy;rw [h,Int.toNat_natCast,hz1,adn]
theorem adg (ll n k:Nat):((dN (fun i=>if i<k then ll else 0) n).toArray).setIfInBounds k (.int .i64 (ll:Int))=(dN (fun i=>if i<k+1 then ll else 0) n).toArray:=by
 rw [List.setIfInBounds_toArray]
 congr 1
 unfold dN
 apply List.ext_getElem
 ·simp
 ·intro i h1 h2
  rw [List.getElem_set];simp only [List.getElem_map,List.getElem_range]
  split
  ·rename_i h;subst h;simp
  ·rename_i h
   by_cases h3:i<k
   ·simp [h3,show i<k+1 by omega]
   ·simp [h3,show ¬i<k+1 by omega]
theorem adi (ll n:Nat):dN (fun i=>if i<n then ll else 0) n=dN (fun _=>ll) n:=by
 unfold dN
 apply List.map_congr_left
 intro i hi
 simp [List.mem_range.1 hi]
theorem Own.blk {w:World}{F:Nat→Prop}{e:TypeId}{b n:Nat}{xs:List Value}(hb:Blk w b e xs.toArray)(hl:xs.length=n)(hn:n≤maxLen)(hF:F b):Own w F e (.slice (some ⟨b,0,none⟩) n n) xs:=by
 subst hl;exact ⟨⟨by simp,.inr ⟨b,xs.length,xs.toArray,rfl,Nat.zero_le _,hb,Nat.le_refl _,hn,by simp,by simp⟩⟩,fun g hg=>by simp [Value.ownBlock] at hg;exact hg▸hF⟩
structure mH (w:World) (p j:Nat) (r:Rs) (V:Value) (bx bm ll nn k:Nat) (W:World):Prop where
 ne:bx≠bm
 lx:w.heap.size≤bx
 lm:w.heap.size≤bm
 hp:Blk W p TRR #[.pointer (some ⟨j,0,none⟩),.int .i64 r.id,.int .i64 (nn:Int),.int .i64 3,.int .i64 r.commit,V,.slice (some ⟨bx,0,none⟩) nn nn,.slice (some ⟨bm,0,none⟩) nn nn]
 hx:Blk W bx TIn (dN (fun i=>if i<k then ll else 0) nn).toArray
 hm:Blk W bm TIn (dN (fun _=>0) nn).toArray
 fr:Fr (fun i=>i=p) w W
section
variable {w w' w1:World}{F G Fj:Nat→Prop}{p:Nat}{r r' :Rs}{n m:Nat}{V X M:Value}{bs xs ms:List Value}
theorem mH.start {j bx bm ll:Nat}{W1:World}(hb:Blk W1 p TRR #[.pointer (some ⟨j,0,none⟩),.int .i64 r.id,.int .i64 (r.n:Int),.int .i64 3,.int .i64 r.commit,V,X,M])(hf:Fr (fun i=>i=p) w W1)(h:bx=W1.heap.size∧bm=W1.heap.size+1∨bx=W1.heap.size+1∧bm=W1.heap.size):
  mH w p j r V bx bm ll r.n 0 ((((W1.setCell ⟨p,6,none⟩ (.slice (some ⟨bx,0,none⟩) r.n r.n)).setCell ⟨p,7,none⟩ (.slice (some ⟨bm,0,none⟩) r.n r.n)).alloc (.cells (dN (fun _=>0) r.n).toArray TIn)).alloc (.cells (dN (fun _=>0) r.n).toArray TIn)).drew:=by
 have hs:=hf.size;obtain ⟨W2,hW2⟩:∃W2,W2=(W1.setCell ⟨p,6,none⟩ (.slice (some ⟨bx,0,none⟩) r.n r.n)).setCell ⟨p,7,none⟩ (.slice (some ⟨bm,0,none⟩) r.n r.n):=⟨_,rfl⟩;have hb2:Blk W2 p TRR #[.pointer (some ⟨j,0,none⟩),.int .i64 r.id,.int .i64 (r.n:Int),.int .i64 3,.int .i64 r.commit,V,.slice (some ⟨bx,0,none⟩) r.n r.n,.slice (some ⟨bm,0,none⟩) r.n r.n]:=by rw [hW2];exact ((hb.aU 6 _).aU 7 _).conv rfl
 have hf2:Fr (fun i=>i=p) w W2:=by rw [hW2];exact (hf.setCell (p:=⟨p,6,none⟩) (.inl rfl) _).setCell (p:=⟨p,7,none⟩) (.inl rfl) _
 have hs2:W2.heap.size=W1.heap.size:=by rw [hW2];simp
 rw [←hW2];have k1:Blk ((W2.alloc (.cells (dN (fun _=>0) r.n).toArray TIn)).alloc (.cells (dN (fun _=>0) r.n).toArray TIn)) W2.heap.size TIn (dN (fun _=>0) r.n).toArray:=(Blk.new W2 TIn _).fr (aj _ _) id;have k2:Blk ((W2.alloc (.cells (dN (fun _=>0) r.n).toArray TIn)).alloc (.cells (dN (fun _=>0) r.n).toArray TIn)) (W2.heap.size+1) TIn (dN (fun _=>0) r.n).toArray:=by have:=Blk.new (W2.alloc (.cells (dN (fun _=>0) r.n).toArray TIn)) TIn (dN (fun _=>0) r.n).toArray;simpa using this
 have e0:dN (fun i=>if i<0 then ll else 0) r.n=dN (fun _=>0) r.n:=by simp
 rw [hs2] at k1 k2;have k3:Blk ((W2.alloc (.cells (dN (fun _=>0) r.n).toArray TIn)).alloc (.cells (dN (fun _=>0) r.n).toArray TIn)) p TRR _:=(hb2.fr (aj W2 (.cells (dN (fun _=>0) r.n).toArray TIn)) id).fr (aj _ (.cells (dN (fun _=>0) r.n).toArray TIn)) id
 rcases h with ⟨rfl,rfl⟩|⟨rfl,rfl⟩
 ·exact ⟨by omega,by omega,by omega,k3,by rw [e0];exact k1,k2,((hf2.alloc _).alloc _).drew⟩
 ·exact ⟨by omega,by omega,by omega,k3,by rw [e0];exact k2,k1,((hf2.alloc _).alloc _).drew⟩
theorem mH.next {j bx bm ll nn k:Nat}{W:World}(h:mH w p j r V bx bm ll nn k W)(hpl:p<w.heap.size):mH w p j r V bx bm ll nn (k+1) (W.setCell ⟨bx,k,none⟩ (.int .i64 (ll:Int))):=by
 have hf:Fr (fun i=>i=bx) W (W.setCell ⟨bx,k,none⟩ (.int .i64 (ll:Int))):=(Fr.refl (fun i=>i=bx) W).setCell (p:=⟨bx,k,none⟩) (.inl rfl) _;have hlx:=h.lx;exact ⟨h.ne,h.lx,h.lm,h.hp.fr hf oy,by rw [←adg];exact h.hx.aU k _,h.hm.fr hf fun e=>h.ne e.symm,h.fr.setCell (p:=⟨bx,k,none⟩) (.inr h.lx) _⟩
theorem mH.drew {j bx bm ll nn k:Nat}{W:World}(h:mH w p j r V bx bm ll nn k W):mH w p j r V bx bm ll nn k W.drew:=⟨h.ne,h.lx,h.lm,h.hp,h.hx,h.hm,h.fr.drew⟩
theorem mH.done {j bx bm:Nat}{W:World}(h:mH w p j r V bx bm r.js.log.length r.n r.n W)(h1:Blk w p TRR (gH j r V X M))(h2:F p)(h3:RG true w Fj j r.js n)(h4:∀i,Fj i→F i)(h5:¬Fj p)(h6:∀i,F i→i<w.heap.size)(h7:Rows w F Fj r V X M bs xs ms)(hok:bU r):bY w F p r.lead n W:=by
 have hl5:=hok.five;have hx:=h.hx;rw [adi] at hx;have hs:=h.fr.size;have hlx:=h.lx;have hlm:=h.lm;have hfl:∀i,Fj i→i<w.heap.size:=fun i hi=>h6 i (h4 i hi);refine ⟨fun i=>F i∨(w.heap.size≤i∧i<W.heap.size),⟨j,Fj,V,.slice (some ⟨bx,0,none⟩) r.n r.n,.slice (some ⟨bm,0,none⟩) r.n r.n,bs,dN (fun _=>r.js.log.length) r.n,dN (fun _=>0) r.n,h.hp,.inl h2,h3.fr h.fr fun i hi e=>h5 (e▸hi),fun i hi=> .inl (h4 i hi),h5,fun i hi=> ?_,⟨?_,Own.blk hx (fU _ _) mxl (.inr ⟨h.lx,hx.lt⟩),Own.blk h.hm (fU _ _) mxl (.inr ⟨h.lm,h.hm.lt⟩),h7.av,fun g hg hh=> ?_,fun g hg hh=> ?_,fun g hg hh=> ?_,fun hr=> ?_,fun hr=>⟨rfl,rfl⟩,⟨h7.one.1,kS _ hok.five,kS _ hok.five⟩⟩,hok.lead⟩,fun i hi=>hi.imp id fun h=>h.1,h.fr.mono fun i hi=>hi▸h2⟩
 ·rcases hi with hi|hi
  ·exact nll (h6 i hi) hs
  ·exact hi.2
 ·exact (h7.ov.mono fun i hi=> .inl hi).fr' h.fr fun g hg e=>h7.ov.fT h1 dcd g hg e
 ·simp [Value.ownBlock] at hg;have:=hfl g hh;omega
 ·simp [Value.ownBlock] at hg;have:=hfl g hh;omega
 ·simp [Value.ownBlock] at hg hh;exact h.ne oy
 ·simp [Rs.lead] at hr
theorem ab4 (h:bR w F p r n):Calls Tryz.prog 91 #[.pointer (some ⟨p,0,none⟩)] w fun e w' =>e= .returned (.tuple #[])∧bY w F p r.lead n w' :=by
 have hok:=h.ok;have h5n:=hok.five;have lK:=hok.log.few;obtain ⟨j,Fj,V,X,M,bs,xs,ms,h1,h2,h3,h4,h5,h6,h7,-⟩:=h;obtain ⟨d,A,c,g1,g2,g3⟩:=h3.open_;obtain ⟨hc1,hc2⟩:=g3.cap;unfold maxLen at hc2;have hj:∀W,Fr (fun i=>i=p) w W→W.cell? ⟨j,3,none⟩=some (.slice A r.js.log.length c):=fun W hW=>(g1.fr hW fun e=>h5 (e▸g2)).cell 3;have hdone:=fun bx bm W (hl:mH w p j r V bx bm r.js.log.length r.n r.n W)=>hl.done h1 h2 h3 h4 h5 h6 h7 hok;have hmk:=tV r.n h5n;have c3:w.cell? ⟨p,3,none⟩=some (.int .i64 r.role):=h1.cell 3;have f3:=h1.frozen 3;have hpl:=h1.lt;have b1:Blk (w.setCell ⟨p,3,none⟩ (.int .i64 3)) p TRR #[.pointer (some ⟨j,0,none⟩),.int .i64 r.id,.int .i64 (r.n:Int),.int .i64 3,.int .i64 r.commit,V,X,M]:=(h1.aU 3 _).conv rfl;have hfw:Fr (fun i=>i=p) w (w.setCell ⟨p,3,none⟩ (.int .i64 3)):=(Fr.refl (fun i=>i=p) w).setCell (p:=⟨p,3,none⟩) (.inl rfl) _;obtain ⟨W1,hW1⟩:∃W1,W1=w.setCell ⟨p,3,none⟩ (.int .i64 3):=⟨_,rfl⟩;rw [←hW1] at b1 hfw;have d2:=b1.cell 2;have d6:=b1.cell 6;have d7:=b1.cell 7;have e6:=b1.frozen 6;have e7:=b1.frozen 7;have apy:=b1.lt;simp only [List.getElem?_toArray,List.getElem?_cons_zero,List.getElem?_cons_succ] at d2 d6 d7;generalize r.js.log.length=ll at*;clear h1 h2 h3 h4 h5 h6 h7 hok g1 g2 g3;obtain ⟨rX,HW1,B1,HFW,HJ⟩:=jr hdone hW1 b1 hfw hj;clear hdone hW1 b1 hfw hj
 go_in
 go_upto_region 1 with fail
 rw [←HW1.out]
 go_wp2_with fail
 go_region
 all_goals
  first
   |have B0:=O (mH.start (ll:=ll) (bx:=W1.heap.size) (bm:=W1.heap.size+1) B1.out HFW.out (.inl ⟨rfl,rfl⟩))
    generalize W1.heap.size+1=bm at*;generalize W1.heap.size=bx at*
    fail_if_success (have hhh:bx=bm:=rfl)
    go_wp2_with fail
    go_loopw [2] (fun iv wr=>∃k:Nat,k≤r.n∧iv= .int .i64 k∧mH w p j r V bx bm ll r.n k wr) (fun iv _=>r.n-(intOf iv).toNat)
    case atStart=>exact ⟨0,Nat.zero_le _,rfl,B0.out⟩
   |have B0:=O (mH.start (ll:=ll) (bx:=W1.heap.size+1) (bm:=W1.heap.size) B1.out HFW.out (.inr ⟨rfl,rfl⟩))
    generalize W1.heap.size+1=bx at*;generalize W1.heap.size=bm at*
    go_wp2_with fail
    go_loopw [2] (fun iv wr=>∃k:Nat,k≤r.n∧iv= .int .i64 k∧mH w p j r V bx bm ll r.n k wr) (fun iv _=>r.n-(intOf iv).toNat)
    case atStart=>exact ⟨0,Nat.zero_le _,rfl,B0.out⟩
  case round=>
   clear B0 d2 d6 d7 e6 e7 c3 f3;obtain ⟨k,hk,rfl,hL⟩:=hrel;have c2:wr.cell? ⟨p,2,none⟩=some (.int .i64 (r.n:Int)):=hL.hp.cell 2
   by_cases hlt:k<r.n
   ·have b1:decide (k<r.n)=true:=decide_eq_true hlt
    have b2:decide ((k:Int)<(r.n:Int))=true:=dtt;have b3:(k:Int)<(r.n:Int):=by omega
    have c0:wr.cell? ⟨p,0,none⟩=some (.pointer (some ⟨j,0,none⟩)):=hL.hp.cell 0;have c6:wr.cell? ⟨p,6,none⟩=some (.slice (some ⟨bx,0,none⟩) r.n r.n):=hL.hp.cell 6;have cj:=HJ.out wr hL.fr;have cx:wr.cell? ⟨bx,k,none⟩=some (.int .i64 ((if k<k then ll else 0:Nat):Int)):=by rw [hL.hx.cell,List.getElem?_toArray,qy hlt]
    have fx:=hL.hx.frozen k;have T9:=O (hL.next hpl);clear hL
    go_wp2_with fail
    go_region
    all_goals
     go_wp2_with fail
     go_roundw
     case rel=>exact ⟨k+1,by omega,by go_num,by first|exact T9.out|exact T9.out.drew⟩
     case measure=>simp [intOf];omega
   ·obtain rfl:k=r.n:=by omega
    have b1:decide (r.n<r.n)=false:=by simp
    have b2:decide ((r.n:Int)<(r.n:Int))=false:=by simp
    have T9:=O (rX.out _ _ _ hL);clear hL
    go_wp2_with fail
    go_end0
    exact ⟨rfl,T9.out⟩
end
end
end Go.Proofs.YtjnfmfmglehmbaaGreat
