/-
  The contracts of package wire's integers.
-/
import Derived.Test.YtodkhcbjpodgeaaGreatG07
import Derived.Laws.MakeOwn
import Derived.Laws.Bits64
namespace Go.Proofs.YtodkhcbjpodgeaaGreat
open Go.ChangeShapes Go.WideShapes Go.ChangeAt Go.RowKit
set_option linter.unusedVariables false
set_option maxRecDepth 100000
set_option maxHeartbeats 4000000
theorem ai2 (x:Int)(h0:0≤x)(h1:x<18446744073709551616):bits BinOp.xor IntKind.u64 IntKind.u64.max x=18446744073709551615-x:=by
 show IntKind.u64.wrap ((BitVec.ofInt 64 18446744073709551615 ^^^ BitVec.ofInt 64 x).toNat:Int)=_
 have e:BitVec.ofInt 64 18446744073709551615=BitVec.allOnes 64:=by decide
 rw [e,BitVec.allOnes_xor,BitVec.toNat_not,IntKind.wrap_u64];have:(BitVec.ofInt 64 x).toNat=x.toNat:=by rw [BitVec.toNat_ofInt];omega
 rw [this]
 omega
theorem af7 (n:Int)(w:World)(h1: -9223372036854775808≤n)(h2:n≤9223372036854775807):
  Calls Tryz.prog 229 #[.int .i64 n] w fun e w' =>e= .returned (.int .u64 (bW n:Int))∧w=w' :=by
 by_cases hn:n<0
 ·go_in
  go_wp2
  go_ret
  refine ⟨mq ?_,rfl⟩;have e1:IntKind.u64.wrap (IntKind.u64.wrap n*2)=2*n+18446744073709551616:=by
   rw [IntKind.wrap_u64,IntKind.wrap_u64]
   omega
  rw [e1,ai2 _ oy oy];unfold bW;rw [if_neg oy]
  omega
 ·go_in
  go_wp2
  go_ret
  refine ⟨mq ?_,rfl⟩;unfold bW;rw [if_pos oy]
  omega
theorem tO (A:Option Addr)(n c m:Nat)(l:List UInt8)(w:World)(B:Nat)(hA:A=none→n=0)(hl:l.length=n)(hr:Rd w B A (l.map bv))(hB:B≤w.heap.size)(hsz:n+m≤281474976710656)(hn:n≤225100000000000):
  Calls Tryz.prog 172 #[.slice A n c,.int .i64 (m:Int)] w fun e w' =>∃A' c',e= .returned (.slice A' n c')∧Own w' (fun i=>w.heap.size≤i) 5 (.slice A' n c') (l.map bv)∧Fr No w w' :=by
 obtain ⟨i0,hi0,hz0,hz1,hz2⟩:=info_parts iH;obtain ⟨w1,hrun,hown,hgrow⟩:=run_make_own (P:=Tryz.prog) (w:=w) 0 211 5 i0 _ 1 Tryz.underlying211 hi0 hz0 hz1 .i64 .i64 (n+m) (by rw [hz2];omega) mxl (Nat.zero_le _);have hm1:Own w1 (fun i=>w.heap.size≤i) 5 (.slice (some ⟨w.heap.size,0,none⟩) 0 (n+m)) []:=⟨hown,fun g hg=>by simp [Value.ownBlock] at hg;omega⟩;have hf1:Fr No w w1:=(Fr.refl No w).grown hgrow (fun k hk=>by cases hk);rw [Int.natCast_add] at hrun;obtain ⟨O1,F1,HA,HL,HR⟩:=jq hm1 hf1 hA hl hr;have hs1:w.heap.size≤w1.heap.size:=hf1.size;clear hm1 hf1 hA hl hr hown hgrow
 go_in
 go_wp2_with (at_builtin;refine bN _ rfl (.tmp 9) (.tmp 10) _ rfl 0 5 i0 _ 1 Tryz.underlying211 hi0 hz0 hz1 hz2 rfl _ 0 [] rfl O1.out.1 B A n c (l.map bv) rfl ?c1 ?c2 ?c3 (nG l) ?c4 ?c5 (Nat.zero_le _) ?_)
 case c1=>exact HA.out
 case c2=>exact HR.out.au F1.out hB
 case c3=>rw [List.length_map,HL.out]
 case c4=>unfold maxLen;omega
 case c5=>omega
 intro v2 w2 happ;obtain ⟨o2,f2⟩:=O1.out.jL hs1 rfl (by rw [List.length_map,HL.out]) happ;rw [List.nil_append] at o2;obtain ⟨A2,c2,rfl,n2⟩:=o2.form;rw [List.length_map,HL.out] at o2 ⊢;obtain ⟨O2,F2⟩:=aN o2 (F1.out.aD f2 fun i hi=>hi);clear happ o2 f2 n2
 go_wp2
 go_ret
 exact ⟨A2,c2,rfl,O2.out,F2.out⟩
theorem apw (x:Nat)(h:x<256):bits BinOp.or IntKind.u8 (x:Int) 128=((x % 128+128:Nat):Int):=by
 have:∀y:Fin 256,bits BinOp.or IntKind.u8 ((y.val:Nat):Int) 128=((y.val % 128+128:Nat):Int):=by decide+kernel
 exact this ⟨x,h⟩
set_option maxHeartbeats 1000000 in
theorem air (A:Option Addr)(n c:Nat)(k:Int)(l:List UInt8)(w:World)(F:Nat→Prop)(hn:l.length=n)(ho:Own w F 5 (.slice A n c) (l.map bv))(hk1: -9223372036854775808≤k)(hk2:k≤9223372036854775807)(hsz:n≤225000000000000):
  Calls Tryz.prog 171 #[.slice A n c,.int .i64 k] w fun e w' =>∃A' c',e= .returned (.slice A' (n+(fM (bW k)).length) c')∧Own w' (fun i=>F i∨w.heap.size≤i) 5 (.slice A' (n+(fM (bW k)).length) c') ((l++fM (bW k)).map bv)∧Fr F w w' :=by
 obtain ⟨i0,hi0,hz0,hz1,hz2⟩:=info_parts iH;have hcl:=dG k hk1 hk2;have hel:=bD _ hcl;generalize hu0:bW k=u0 at*;obtain ⟨HU,HO,HN⟩:=bC hu0 ho hn;clear ho hn hu0
 go_in
 go_wp2_with fail
 refine (af7 _ _ hk1 hk2).mono ?_;rintro e w1 ⟨rfl,rfl⟩;rw [HU.out]
 go_wp2_with fail
 go_loopw [0,5] (fun b i wr=>∃(A' :Option Addr) (c' :Nat) (p:List UInt8) (u:Nat),b= .slice A' (n+p.length) c'∧i= .int .u64 (u:Int)∧u≤u0∧fM u0=p++fM u∧Own wr (fun i=>F i∨w.heap.size≤i) 5 (.slice A' (n+p.length) c') ((l++p).map bv)∧Fr F w wr) (fun _ i _=>(intOf i).toNat)
 case atStart=>exact ⟨A,c,[],u0,rfl,rfl,Nat.le_refl _,rfl,by simpa using HO.out.mono fun i hi=> .inl hi,Fr.refl _ _⟩
 case round=>
  obtain ⟨A',c',p,u,rfl,rfl,hu,he,ho,hf⟩:=hrel;obtain ⟨HE,O1,F1⟩:=bC he ho hf;have hpl:p.length≤10:=by have:=congrArg List.length he;rw [List.length_append] at this;omega
  have hs1:w.heap.size≤wr.heap.size:=hf.size;clear he ho hf
  by_cases hlt:u<128
  ·have ht:decide ((128:Int)≤(u:Int))=false:=by simp;omega
   have hb:[Value.int .u8 (u:Int)]=[UInt8.ofNat u].map bv:=by
    simp only [List.map_cons,List.map_nil,bv,UInt8.toNat_ofNat'];rw [show u % 2 ^ 8=u from by omega]
   obtain ⟨HB,P1⟩:=aN hb (O1.out.au (aj wr (.cells #[.int .u8 (u:Int)] 5)));clear hb
   go_wp2_with (at_builtin;refine bN _ rfl (.tmp 18) (.tmp 21) _ rfl 0 5 i0 _ 1 Tryz.underlying211 hi0 hz0 hz1 hz2 rfl _ (n+p.length) ((l++p).map bv) rfl ?c0 (wr.heap.size+1) _ 1 1 ([UInt8.ofNat u].map bv) rfl (fun h=>by cases h) ?c1 rfl (nG _) ?c4 ?c5 (Nat.zero_le _) ?_)
   case c0=>exact P1.out.own (by rw [List.length_map,List.length_append,HN.out])
   case c1=>exact Rd.new wr [.int .u8 (u:Int)] 5 HB.out
   case c4=>unfold maxLen;omega
   case c5=>omega
   intro v2 w2 happ;obtain ⟨o2,f2⟩:=P1.out.sZ (n:=n+p.length) (m:=1) (news:=[bv (UInt8.ofNat u)]) (v' :=v2) (w' :=w2) (by simp;omega) (by rw [List.length_map,List.length_append,HN.out]) rfl (by simpa using happ);have e2:(l++p).map bv++[bv (UInt8.ofNat u)]=(l++fM u0).map bv:=by rw [HE.out,uY u hlt];simp
   have hl2:((l++fM u0).map bv).length=n+(fM u0).length:=by rw [List.length_map,List.length_append,HN.out]
   rw [e2] at o2;obtain ⟨A2,c2,rfl,n2⟩:=o2.form;rw [hl2] at o2 ⊢;obtain ⟨O2,F2⟩:=aN o2 ((F1.out.alloc (.cells #[.int .u8 (u:Int)] 5)).agx f2);clear happ o2 f2 n2 e2 hl2
   go_wp2_with fail
   go_ret
   exact ⟨A2,c2,rfl,O2.out,F2.out⟩
  ·have ht:decide ((128:Int)≤(u:Int))=true:=by simp;omega
   have hor:bits BinOp.or IntKind.u8 ((u:Int) % 256) 128=((u % 128+128:Nat):Int):=by
    have h1:=apw (u % 256) oy;rw [show (((u % 256:Nat)):Int)=(u:Int) % 256 from by omega] at h1;rw [h1]
    omega
   have hb:[Value.int .u8 (bits BinOp.or IntKind.u8 ((u:Int) % 256) 128)]=[UInt8.ofNat (u % 128+128)].map bv:=by
    rw [hor];simp only [List.map_cons,List.map_nil,bv,UInt8.toNat_ofNat'];rw [show (u % 128+128) % 2 ^ 8=u % 128+128 from by omega]
   obtain ⟨HB,P1⟩:=aN hb (O1.out.au (aj wr (.cells #[.int .u8 (bits BinOp.or IntKind.u8 ((u:Int) % 256) 128)] 5)));clear hb hor
   go_wp2_with (at_builtin;refine bN _ rfl (.tmp 10) (.tmp 14) _ rfl 0 5 i0 _ 1 Tryz.underlying211 hi0 hz0 hz1 hz2 rfl _ (n+p.length) ((l++p).map bv) rfl ?c0 (wr.heap.size+1) _ 1 1 ([UInt8.ofNat (u % 128+128)].map bv) rfl (fun h=>by cases h) ?c1 rfl (nG _) ?c4 ?c5 (Nat.zero_le _) ?_)
   case c0=>exact P1.out.own (by rw [List.length_map,List.length_append,HN.out])
   case c1=>exact Rd.new wr [.int .u8 (bits BinOp.or IntKind.u8 ((u:Int) % 256) 128)] 5 HB.out
   case c4=>unfold maxLen;omega
   case c5=>omega
   intro v2 w2 happ;obtain ⟨o2,f2⟩:=P1.out.sZ (n:=n+p.length) (m:=1) (news:=[bv (UInt8.ofNat (u % 128+128))]) (v' :=v2) (w' :=w2) (by simp;omega) (by rw [List.length_map,List.length_append,HN.out]) rfl (by simpa using happ);have e2:(l++p).map bv++[bv (UInt8.ofNat (u % 128+128))]=(l++(p++[UInt8.ofNat (u % 128+128)])).map bv:=by simp
   have hl2:((l++(p++[UInt8.ofNat (u % 128+128)])).map bv).length=n+(p.length+1):=by simp [HN.out]
   rw [e2] at o2;obtain ⟨A2,c2,rfl,n2⟩:=o2.form;rw [hl2] at o2 ⊢;obtain ⟨O2,F2⟩:=aN o2 ((F1.out.alloc (.cells #[.int .u8 (bits BinOp.or IntKind.u8 ((u:Int) % 256) 128)] 5)).agx f2);clear happ o2 f2 n2 e2 hl2
   go_wp2_with fail
   go_roundw
   case rel=>
    refine ⟨A2,c2,p++[UInt8.ofNat (u % 128+128)],u / 128,?_,?_,by omega,?_,?_,F2.out⟩
    ·simp
    ·go_num
    ·rw [HE.out,uZ u hlt];simp
    ·rw [List.length_append];exact O2.out
   case measure=>simp [intOf];omega
theorem gF (A:Option Addr)(n c:Nat)(k:Int)(l:List UInt8)(w:World)(B:Nat)(hA:A=none→n=0)(hl:l.length=n)(hr:Rd w B A (l.map bv))(hB:B≤w.heap.size)(hk1: -9223372036854775808≤k)(hk2:k≤9223372036854775807)(hsz:n≤225000000000000):
  Calls Tryz.prog 133 #[.slice A n c,.int .i64 k] w fun e w' =>∃A' c',e= .returned (.slice A' (n+(fM (bW k)).length) c')∧Own w' (fun i=>w.heap.size≤i) 5 (.slice A' (n+(fM (bW k)).length) c') ((l++fM (bW k)).map bv)∧Fr No w w' :=by
 obtain ⟨HA,HL,HR⟩:=bC hA hl hr;clear hA hl hr
 go_in
 go_wp2_with fail
 refine (tO A n c 10 l _ B HA.out HL.out HR.out hB oy oy).mono ?_;rintro e w1 ⟨A1,c1,rfl,o1,f1⟩;obtain ⟨O1,F1⟩:=aN o1 f1;clear o1 f1
 go_wp2_with fail
 refine (air A1 n c1 k l _ _ HL.out O1.out hk1 hk2 hsz).mono ?_;rintro e w2 ⟨A2,c2,rfl,o2,f2⟩;have hs:=F1.out.size;obtain ⟨O2,F2⟩:=aN (o2.mono (G:=fun i=>w.heap.size≤i) fun i hi=>by rcases hi with hi|hi<;>omega) (F1.out.aD f2 fun i hi=>hi);clear o2 f2 hs
 go_wp2_with fail
 go_ret
 exact ⟨A2,c2,rfl,O2.out,F2.out⟩
def enB (e:En):List UInt8:=dA e.l
theorem aci (e:En)(h:e.ok):(enB e).length≤90:=jc e.l h
theorem ac3 (e:En)(w:World)(hok:e.ok):
  Calls Tryz.prog 283 #[e.v] w fun r w' =>∃A c,r= .returned (.slice A (enB e).length c)∧Own w' (fun i=>w.heap.size≤i) 5 (.slice A (enB e).length c) ((enB e).map bv)∧Fr No w w' :=by
 obtain ⟨kd,tick,te,ce,ot,ep,fr,un,n⟩:=e;have hok' :(-9223372036854775808≤kd∧kd≤9223372036854775807)∧(-9223372036854775808≤tick∧tick≤9223372036854775807)∧(-9223372036854775808≤te∧te≤9223372036854775807)∧(-9223372036854775808≤ce∧ce≤9223372036854775807)∧(-9223372036854775808≤ot∧ot≤9223372036854775807)∧(-9223372036854775808≤ep∧ep≤9223372036854775807)∧(-9223372036854775808≤fr∧fr≤9223372036854775807)∧(-9223372036854775808≤un∧un≤9223372036854775807)∧(-9223372036854775808≤n∧n≤9223372036854775807):=by simpa [En.ok,En.l] using hok
 obtain ⟨b0,b1,b2,b3,b4,b5,b6,b7,b8⟩:=hok';have hend:dA ([kd,tick,te,ce,ot,ep,fr,un,n].take 9)=enB ⟨kd,tick,te,ce,ot,ep,fr,un,n⟩:=rfl;generalize enB ⟨kd,tick,te,ce,ot,ep,fr,un,n⟩=E at*;obtain ⟨L,hL⟩:∃L,L=[kd,tick,te,ce,ot,ep,fr,un,n]:=⟨_,rfl⟩;rw [←hL] at hend;unfold En.v;have c1:=aU (Blk.new w qE #[.int .i64 kd,.int .i64 tick,.int .i64 te,.int .i64 ce,.int .i64 ot,.int .i64 ep,.int .i64 fr,.int .i64 un,.int .i64 n]);obtain ⟨c0,c1,c2,c3,c4,c5,c6,c7,c8⟩:=c1;clear hok;obtain ⟨xI,HL,B0,B1,B2,B3,B4,B5,B6,B7,B8⟩:=kP hend hL b0 b1 b2 b3 b4 b5 b6 b7 b8;clear hend hL b0 b1 b2 b3 b4 b5 b6 b7 b8
 go_in
 go_wp2_with fail
 obtain ⟨W,hW⟩:∃W,W=w.alloc (.cells #[.int .i64 kd,.int .i64 tick,.int .i64 te,.int .i64 ce,.int .i64 ot,.int .i64 ep,.int .i64 fr,.int .i64 un,.int .i64 n] qE):=⟨_,rfl⟩;have hF:Fr No w W:=by rw [hW];exact aj w _
 rw [←hW];clear hW c0 c1 c2 c3 c4 c5 c6 c7 c8;have HF:=O hF;clear hF
 go_loopw [3,25] (fun o i wr=>∃(A' :Option Addr) (c' k:Nat) (p:List UInt8),k≤9∧i= .int .i64 k∧p=dA (L.take k)∧p.length≤10*k∧o= .slice A' p.length c'∧Own wr (fun i=>w.heap.size≤i) 5 (.slice A' p.length c') (p.map bv)∧Fr No W wr) (fun _ i _=>9-(intOf i).toNat)
 case atStart=>exact ⟨none,0,0,[],Nat.zero_le _,rfl,rfl,Nat.zero_le _,rfl,Own.nil _ _ _,Fr.refl _ _⟩
 case round=>
  obtain ⟨A',c',k,p,hk,rfl,hp,hpl,rfl,ho,hf⟩:=hrel;have hs:w.heap.size≤wr.heap.size:=(HF.out.ah hf).size;have hcase:k=0∨k=1∨k=2∨k=3∨k=4∨k=5∨k=6∨k=7∨k=8∨k=9:=by omega
  obtain ⟨HP,O3,F3⟩:=bC hp ho hf;clear hp ho hf hk
  rcases hcase with rfl|rfl|rfl|rfl|rfl|rfl|rfl|rfl|rfl|rfl
  ·have uO:=bD _ (dG kd B0.out.1 B0.out.2)
   have htk:dA (L.take 1)=p++fM (bW kd):=by rw [HP.out,HL.out,←dL];rfl
   have HTK:=O htk;clear htk;have ix:∀W:World,(Instr.index 398 (.agg #[.int .i64 kd,.int .i64 tick,.int .i64 te,.int .i64 ce,.int .i64 ot,.int .i64 ep,.int .i64 fr,.int .i64 un,.int .i64 n]) (.int .i64 0)).run Tryz.prog W= .ok (.int .i64 kd) W:=fun _=>by kernel_rfl
   go_wp2_with fail
   refine (gF A' p.length c' kd p _ _ O3.out.len.2 rfl O3.out.rd (Nat.le_refl _) B0.out.1 B0.out.2 oy).mono ?_;rintro e w4 ⟨A4,c4,rfl,o4,f4⟩;obtain ⟨O4,F4⟩:=aN (o4.mono (G:=fun i=>w.heap.size≤i) fun i hi=>by omega) (F3.out.ah f4);clear o4 f4
   go_wp2_with fail
   go_roundw
   case rel=>
    refine ⟨A4,c4,1,p++fM (bW kd),by omega,rfl,HTK.out.symm,by rw [List.length_append];omega,?_,?_,F4.out⟩
    ·rw [List.length_append]
    ·rw [List.length_append];exact O4.out
   case measure=>simp [intOf]
  ·have uO:=bD _ (dG tick B1.out.1 B1.out.2)
   have htk:dA (L.take 2)=p++fM (bW tick):=by rw [HP.out,HL.out,←dL];rfl
   have HTK:=O htk;clear htk;have ix:∀W:World,(Instr.index 398 (.agg #[.int .i64 kd,.int .i64 tick,.int .i64 te,.int .i64 ce,.int .i64 ot,.int .i64 ep,.int .i64 fr,.int .i64 un,.int .i64 n]) (.int .i64 1)).run Tryz.prog W= .ok (.int .i64 tick) W:=fun _=>by kernel_rfl
   go_wp2_with fail
   refine (gF A' p.length c' tick p _ _ O3.out.len.2 rfl O3.out.rd (Nat.le_refl _) B1.out.1 B1.out.2 oy).mono ?_;rintro e w4 ⟨A4,c4,rfl,o4,f4⟩;obtain ⟨O4,F4⟩:=aN (o4.mono (G:=fun i=>w.heap.size≤i) fun i hi=>by omega) (F3.out.ah f4);clear o4 f4
   go_wp2_with fail
   go_roundw
   case rel=>
    refine ⟨A4,c4,2,p++fM (bW tick),by omega,rfl,HTK.out.symm,by rw [List.length_append];omega,?_,?_,F4.out⟩
    ·rw [List.length_append]
    ·rw [List.length_append];exact O4.out
   case measure=>simp [intOf]
  ·have uO:=bD _ (dG te B2.out.1 B2.out.2)
   have htk:dA (L.take 3)=p++fM (bW te):=by rw [HP.out,HL.out,←dL];rfl
   have HTK:=O htk;clear htk;have ix:∀W:World,(Instr.index 398 (.agg #[.int .i64 kd,.int .i64 tick,.int .i64 te,.int .i64 ce,.int .i64 ot,.int .i64 ep,.int .i64 fr,.int .i64 un,.int .i64 n]) (.int .i64 2)).run Tryz.prog W= .ok (.int .i64 te) W:=fun _=>by kernel_rfl
   go_wp2_with fail
   refine (gF A' p.length c' te p _ _ O3.out.len.2 rfl O3.out.rd (Nat.le_refl _) B2.out.1 B2.out.2 oy).mono ?_;rintro e w4 ⟨A4,c4,rfl,o4,f4⟩;obtain ⟨O4,F4⟩:=aN (o4.mono (G:=fun i=>w.heap.size≤i) fun i hi=>by omega) (F3.out.ah f4);clear o4 f4
   go_wp2_with fail
   go_roundw
   case rel=>
    refine ⟨A4,c4,3,p++fM (bW te),by omega,rfl,HTK.out.symm,by rw [List.length_append];omega,?_,?_,F4.out⟩
    ·rw [List.length_append]
    ·rw [List.length_append];exact O4.out
   case measure=>simp [intOf]
  ·have uO:=bD _ (dG ce B3.out.1 B3.out.2)
   have htk:dA (L.take 4)=p++fM (bW ce):=by rw [HP.out,HL.out,←dL];rfl
   have HTK:=O htk;clear htk;have ix:∀W:World,(Instr.index 398 (.agg #[.int .i64 kd,.int .i64 tick,.int .i64 te,.int .i64 ce,.int .i64 ot,.int .i64 ep,.int .i64 fr,.int .i64 un,.int .i64 n]) (.int .i64 3)).run Tryz.prog W= .ok (.int .i64 ce) W:=fun _=>by kernel_rfl
   go_wp2_with fail
   refine (gF A' p.length c' ce p _ _ O3.out.len.2 rfl O3.out.rd (Nat.le_refl _) B3.out.1 B3.out.2 oy).mono ?_;rintro e w4 ⟨A4,c4,rfl,o4,f4⟩;obtain ⟨O4,F4⟩:=aN (o4.mono (G:=fun i=>w.heap.size≤i) fun i hi=>by omega) (F3.out.ah f4);clear o4 f4
   go_wp2_with fail
   go_roundw
   case rel=>
    refine ⟨A4,c4,4,p++fM (bW ce),by omega,rfl,HTK.out.symm,by rw [List.length_append];omega,?_,?_,F4.out⟩
    ·rw [List.length_append]
    ·rw [List.length_append];exact O4.out
   case measure=>simp [intOf]
  ·have uO:=bD _ (dG ot B4.out.1 B4.out.2)
   have htk:dA (L.take 5)=p++fM (bW ot):=by rw [HP.out,HL.out,←dL];rfl
   have HTK:=O htk;clear htk;have ix:∀W:World,(Instr.index 398 (.agg #[.int .i64 kd,.int .i64 tick,.int .i64 te,.int .i64 ce,.int .i64 ot,.int .i64 ep,.int .i64 fr,.int .i64 un,.int .i64 n]) (.int .i64 4)).run Tryz.prog W= .ok (.int .i64 ot) W:=fun _=>by kernel_rfl
   go_wp2_with fail
   refine (gF A' p.length c' ot p _ _ O3.out.len.2 rfl O3.out.rd (Nat.le_refl _) B4.out.1 B4.out.2 oy).mono ?_;rintro e w4 ⟨A4,c4,rfl,o4,f4⟩;obtain ⟨O4,F4⟩:=aN (o4.mono (G:=fun i=>w.heap.size≤i) fun i hi=>by omega) (F3.out.ah f4);clear o4 f4
   go_wp2_with fail
   go_roundw
   case rel=>
    refine ⟨A4,c4,5,p++fM (bW ot),by omega,rfl,HTK.out.symm,by rw [List.length_append];omega,?_,?_,F4.out⟩
    ·rw [List.length_append]
    ·rw [List.length_append];exact O4.out
   case measure=>simp [intOf]
  ·have uO:=bD _ (dG ep B5.out.1 B5.out.2)
   have htk:dA (L.take 6)=p++fM (bW ep):=by rw [HP.out,HL.out,←dL];rfl
   have HTK:=O htk;clear htk;have ix:∀W:World,(Instr.index 398 (.agg #[.int .i64 kd,.int .i64 tick,.int .i64 te,.int .i64 ce,.int .i64 ot,.int .i64 ep,.int .i64 fr,.int .i64 un,.int .i64 n]) (.int .i64 5)).run Tryz.prog W= .ok (.int .i64 ep) W:=fun _=>by kernel_rfl
   go_wp2_with fail
   refine (gF A' p.length c' ep p _ _ O3.out.len.2 rfl O3.out.rd (Nat.le_refl _) B5.out.1 B5.out.2 oy).mono ?_;rintro e w4 ⟨A4,c4,rfl,o4,f4⟩;obtain ⟨O4,F4⟩:=aN (o4.mono (G:=fun i=>w.heap.size≤i) fun i hi=>by omega) (F3.out.ah f4);clear o4 f4
   go_wp2_with fail
   go_roundw
   case rel=>
    refine ⟨A4,c4,6,p++fM (bW ep),by omega,rfl,HTK.out.symm,by rw [List.length_append];omega,?_,?_,F4.out⟩
    ·rw [List.length_append]
    ·rw [List.length_append];exact O4.out
   case measure=>simp [intOf]
  ·have uO:=bD _ (dG fr B6.out.1 B6.out.2)
   have htk:dA (L.take 7)=p++fM (bW fr):=by rw [HP.out,HL.out,←dL];rfl
   have HTK:=O htk;clear htk;have ix:∀W:World,(Instr.index 398 (.agg #[.int .i64 kd,.int .i64 tick,.int .i64 te,.int .i64 ce,.int .i64 ot,.int .i64 ep,.int .i64 fr,.int .i64 un,.int .i64 n]) (.int .i64 6)).run Tryz.prog W= .ok (.int .i64 fr) W:=fun _=>by kernel_rfl
   go_wp2_with fail
   refine (gF A' p.length c' fr p _ _ O3.out.len.2 rfl O3.out.rd (Nat.le_refl _) B6.out.1 B6.out.2 oy).mono ?_;rintro e w4 ⟨A4,c4,rfl,o4,f4⟩;obtain ⟨O4,F4⟩:=aN (o4.mono (G:=fun i=>w.heap.size≤i) fun i hi=>by omega) (F3.out.ah f4);clear o4 f4
   go_wp2_with fail
   go_roundw
   case rel=>
    refine ⟨A4,c4,7,p++fM (bW fr),by omega,rfl,HTK.out.symm,by rw [List.length_append];omega,?_,?_,F4.out⟩
    ·rw [List.length_append]
    ·rw [List.length_append];exact O4.out
   case measure=>simp [intOf]
  ·have uO:=bD _ (dG un B7.out.1 B7.out.2)
   have htk:dA (L.take 8)=p++fM (bW un):=by rw [HP.out,HL.out,←dL];rfl
   have HTK:=O htk;clear htk;have ix:∀W:World,(Instr.index 398 (.agg #[.int .i64 kd,.int .i64 tick,.int .i64 te,.int .i64 ce,.int .i64 ot,.int .i64 ep,.int .i64 fr,.int .i64 un,.int .i64 n]) (.int .i64 7)).run Tryz.prog W= .ok (.int .i64 un) W:=fun _=>by kernel_rfl
   go_wp2_with fail
   refine (gF A' p.length c' un p _ _ O3.out.len.2 rfl O3.out.rd (Nat.le_refl _) B7.out.1 B7.out.2 oy).mono ?_;rintro e w4 ⟨A4,c4,rfl,o4,f4⟩;obtain ⟨O4,F4⟩:=aN (o4.mono (G:=fun i=>w.heap.size≤i) fun i hi=>by omega) (F3.out.ah f4);clear o4 f4
   go_wp2_with fail
   go_roundw
   case rel=>
    refine ⟨A4,c4,8,p++fM (bW un),by omega,rfl,HTK.out.symm,by rw [List.length_append];omega,?_,?_,F4.out⟩
    ·rw [List.length_append]
    ·rw [List.length_append];exact O4.out
   case measure=>simp [intOf]
  ·have uO:=bD _ (dG n B8.out.1 B8.out.2)
   have htk:dA (L.take 9)=p++fM (bW n):=by rw [HP.out,HL.out,←dL];rfl
   have HTK:=O htk;clear htk;have ix:∀W:World,(Instr.index 398 (.agg #[.int .i64 kd,.int .i64 tick,.int .i64 te,.int .i64 ce,.int .i64 ot,.int .i64 ep,.int .i64 fr,.int .i64 un,.int .i64 n]) (.int .i64 8)).run Tryz.prog W= .ok (.int .i64 n) W:=fun _=>by kernel_rfl
   go_wp2_with fail
   refine (gF A' p.length c' n p _ _ O3.out.len.2 rfl O3.out.rd (Nat.le_refl _) B8.out.1 B8.out.2 oy).mono ?_;rintro e w4 ⟨A4,c4,rfl,o4,f4⟩;obtain ⟨O4,F4⟩:=aN (o4.mono (G:=fun i=>w.heap.size≤i) fun i hi=>by omega) (F3.out.ah f4);clear o4 f4
   go_wp2_with fail
   go_roundw
   case rel=>
    refine ⟨A4,c4,9,p++fM (bW n),by omega,rfl,HTK.out.symm,by rw [List.length_append];omega,?_,?_,F4.out⟩
    ·rw [List.length_append]
    ·rw [List.length_append];exact O4.out
   case measure=>simp [intOf]
  ·have hpe:p=E:=by rw [HP.out,xI.out]
   subst hpe
   go_wp2_with fail
   go_ret
   exact ⟨A',c',rfl,O3.out,HF.out.ah F3.out⟩
end Go.Proofs.YtodkhcbjpodgeaaGreat
