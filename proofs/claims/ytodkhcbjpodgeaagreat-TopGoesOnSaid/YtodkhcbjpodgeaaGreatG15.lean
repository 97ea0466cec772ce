/-
  The contracts of package frame: Put.
-/
import Derived.Test.YtodkhcbjpodgeaaGreatG11
import Derived.Test.YtodkhcbjpodgeaaGreatG05
import Derived.Laws.BitsAllLaws
namespace Go.Proofs.YtodkhcbjpodgeaaGreat
open Go.ChangeShapes Go.WideShapes Go.ChangeAt Go.RowKit
set_option linter.unusedVariables false
set_option maxRecDepth 100000
set_option maxHeartbeats 4000000
theorem yK {x:Int}(h1:0≤x)(h2:x≤18446744073709551615):∃n:Nat,x=(n:Int)∧n<18446744073709551616:=⟨x.toNat,by omega,by omega⟩
def arp (w:World)(r:List UInt8)(e:Ending)(w' :World):Prop:=
 ∃A' c',e= .returned (.slice A' r.length c')∧Own w' (fun i=>w.heap.size≤i) 5 (.slice A' r.length c') (r.map bv)∧Fr No w w'
set_option maxHeartbeats 2000000 in
theorem aaq (A:Option Addr)(n c:Nat)(key:Int)(A2:Option Addr)(m c2:Nat)(l p:List UInt8)(w:World)(B:Nat)(hA:A=none→n=0)(hl:l.length=n)(hr:Rd w B A (l.map bv))(hA2:A2=none→m=0)(hp:p.length=m)(hr2:Rd w B A2 (p.map bv))(hB:B≤w.heap.size)(hsz:n≤140737488280000)(hm:m≤65536):
  Calls Tryz.prog 311 #[.slice A n c,.int .i64 key,.slice A2 m c2] w (arp w (l++nN key p)):=by
 obtain ⟨i0,hi0,hz0,hz1,hz2⟩:=info_parts iH;have hput:nN key p=abx key p++p:=by unfold nN;rw [if_pos (by rw [hp];exact hm)]
 have hel:=bD (bW (m:Int)) (dG _ oy oy);obtain ⟨S0,hS0,hSl⟩:=yK (aib key p) (aic key p);have aum :(alc key p).toNat=S0:=by rw [hS0,Int.toNat_natCast]
 have hhead:abx key p=fM (bW (m:Int))++leN 8 S0:=by unfold abx;rw [hp,aum]
 rw [hput,hhead];obtain ⟨HA,HN,HR,HA2,HP,HR2,HS⟩:=jo hA hl hr hA2 hp hr2 hS0;have ht:decide ((65536:Int)<(m:Int))=false:=by simp;omega
 clear hA hl hr hA2 hp hr2 hS0 aum hput hhead
 go_in
 go_wp2_with fail
 refine (gF A n c (m:Int) l _ B HA.out HN.out HR.out hB oy oy oy).mono ?_;rintro e w1 ⟨A1,c1,rfl,o1,f1⟩;generalize fM (bW (m:Int))=E at*;obtain ⟨O1,F1⟩:=aN o1 f1;clear o1 f1
 go_wp2_with fail
 refine (aia _ _ _ _ p _ HP.out mxl (HR2.out.au F1.out hB)).mono ?_;rintro e w2 ⟨rfl,rfl⟩;rw [HS.out]
 go_wp2_with fail
 go_loopw [7,8,21] (fun b s i wr=>∃(A' :Option Addr) (c' k:Nat) (q:List UInt8) (S:Nat),k≤8∧i= .int .i64 (k:Int)∧q.length=k∧b= .slice A' (n+E.length+k) c'∧s= .int .u64 (S:Int)∧S<18446744073709551616∧leN 8 S0=q++leN (8-k) S∧Own wr (fun i=>w.heap.size≤i) 5 (.slice A' (n+E.length+k) c') ((l++(E++q)).map bv)∧Fr No w wr) (fun _ _ i _=>8-(intOf i).toNat)
 case atStart=>exact ⟨A1,c1,0,[],S0,Nat.zero_le _,rfl,rfl,rfl,rfl,hSl,rfl,by simpa using O1.out,F1.out⟩
 case round=>
  obtain ⟨A',c',k,q,S,hk,rfl,hq,rfl,rfl,hS,he,ho,hf⟩:=hrel;obtain ⟨HQ,HE,O2,F2⟩:=fV hq he ho hf;have hs2:w.heap.size≤wr.heap.size:=hf.size;clear hq he ho hf
  by_cases hlt:k<8
  ·have hb:[Value.int .u8 ((S:Int) % 256)]=[UInt8.ofNat (S % 256)].map bv:=by
    simp only [List.map_cons,List.map_nil,bv,UInt8.toNat_ofNat'];rw [show ((S:Int) % 256)=((S % 256 % 2 ^ 8:Nat):Int) from by omega]
   obtain ⟨HB,P2⟩:=aN hb (O2.out.au (aj wr (.cells #[.int .u8 ((S:Int) % 256)] 5)));clear hb
   go_wp2_with (at_builtin;refine bN _ rfl (.tmp 23) (.tmp 26) _ rfl 0 5 i0 _ 1 Tryz.underlying211 hi0 hz0 hz1 hz2 rfl _ (n+E.length+k) ((l++(E++q)).map bv) rfl ?c0 (wr.heap.size+1) _ 1 1 ([UInt8.ofNat (S % 256)].map bv) rfl (fun h=>by cases h) ?c1 rfl (nG _) ?c4 ?c5 (Nat.zero_le _) ?_)
   case c0=>exact P2.out.own (by rw [List.length_map,List.length_append,List.length_append,HN.out,HQ.out];omega)
   case c1=>exact Rd.new wr [.int .u8 ((S:Int) % 256)] 5 HB.out
   case c4=>unfold maxLen;omega
   case c5=>omega
   intro v3 w3 happ;obtain ⟨o3,f3⟩:=P2.out.jL (n:=n+E.length+k) (m:=1) (news:=[bv (UInt8.ofNat (S % 256))]) (v' :=v3) (w' :=w3) (by simp;omega) (by rw [List.length_map,List.length_append,List.length_append,HN.out,HQ.out];omega) rfl (by simpa using happ);have e3:(l++(E++q)).map bv++[bv (UInt8.ofNat (S % 256))]=(l++(E++(q++[UInt8.ofNat (S % 256)]))).map bv:=by simp
   have hl3:((l++(E++(q++[UInt8.ofNat (S % 256)]))).map bv).length=n+E.length+(k+1):=by simp [HN.out,HQ.out];omega
   rw [e3] at o3;obtain ⟨A3,c3,rfl,n3⟩:=o3.form;rw [hl3] at o3 ⊢;obtain ⟨O3,F3⟩:=aN o3 ((F2.out.alloc (.cells #[.int .u8 ((S:Int) % 256)] 5)).aD f3 fun i hi=>hi);clear happ o3 f3 n3 e3 hl3
   go_wp2_with fail
   go_roundw
   case rel=>
    refine ⟨A3,c3,k+1,q++[UInt8.ofNat (S % 256)],S / 256,by omega,by go_num,by simp [HQ.out],rfl,by go_num,by omega,?_,O3.out,F3.out⟩;rw [HE.out,show 8-k=(8-(k+1))+1 from by omega]
    simp [leN]
   case measure=>simp [intOf];omega
  ·obtain rfl:k=8:=by omega
   have he8:leN 8 S0=q:=by rw [HE.out];simp [leN]
   have P2:=O2.out;rw [←he8] at P2;have O2' :=O P2;have hfl:((l++(E++leN 8 S0)).map bv).length=n+E.length+8:=by simp [HN.out,oI];omega
   have HFL:=O hfl;clear he8 P2 O2 HQ HE hfl
   go_wp2_with (at_builtin;refine bN _ rfl (.tmp 31) (.tmp 32) _ rfl 0 5 i0 _ 1 Tryz.underlying211 hi0 hz0 hz1 hz2 rfl _ (n+E.length+8) ((l++(E++leN 8 S0)).map bv) rfl ?c0 B A2 m c2 (p.map bv) rfl ?c1 ?c2 ?c3 (nG _) ?c4 ?c5 (Nat.zero_le _) ?_)
   case c0=>exact O2'.out.own HFL.out
   case c1=>exact HA2.out
   case c2=>exact HR2.out.au F2.out hB
   case c3=>rw [List.length_map,HP.out]
   case c4=>unfold maxLen;omega
   case c5=>omega
   intro v3 w3 happ;obtain ⟨o3,f3⟩:=O2'.out.jL (n:=n+E.length+8) (m:=m) (news:=p.map bv) (v' :=v3) (w' :=w3) hs2 HFL.out (by rw [List.length_map,HP.out]) (by simpa using happ);have e3:(l++(E++leN 8 S0)).map bv++p.map bv=(l++(E++leN 8 S0++p)).map bv:=by simp
   rw [e3] at o3;obtain ⟨A3,c3,rfl,n3⟩:=o3.form;rw [List.length_map] at o3;obtain ⟨O3,F3⟩:=aN o3 (F2.out.aD f3 fun i hi=>hi);clear happ o3 f3 n3 e3;rw [List.length_map];generalize (l++(E++leN 8 S0++p))=r at*
   go_wp2_with fail
   go_ret
   exact ⟨A3,c3,rfl,O3.out,F3.out⟩
end Go.Proofs.YtodkhcbjpodgeaaGreat
