/-
  DeleteFunc of leases and windows.
-/
import Derived.Test.YtodkhcbjpodgeaaGreatG12
import Derived.Deep.CutBlock
namespace Go.Proofs.YtodkhcbjpodgeaaGreat
open Go.ChangeShapes Go.WideShapes Go.ChangeAt Go.RowKit
set_option linter.unusedVariables false
set_option maxRecDepth 100000
set_option maxHeartbeats 4000000
theorem aA.clr {w:World}{F:Nat→Prop}{e:TypeId}{size n c g:Nat}{xs:List Value}(h:aA w F e size (.slice (some ⟨g,0,none⟩) n c) n xs){k:Nat}(hk:k≤n)(zs:List Value)(hz:k*size+zs.length≤c*size):
  aA (w.setCells g (k*size) zs) F e size (.slice (some ⟨g,0,none⟩) k c) k (xs.take (k*size))∧Fr F w (w.setCells g (k*size) zs):=by
 have hxl:=h.1.1
 rcases h.1.2 with ⟨h0,_⟩|⟨g',cap,cur,hv,hb,hgg,hnc,hcm,hcs,htk⟩
 ·cases h0
 injection hv with e1 e2 e3;injection e1 with e1;injection e1 with e1;subst e1 e3;have hFg:F g:=h.2 g rfl;have hblk:Blk w g e cur:=hgg;have hb2:=Blk.setCells (w:=w) zs (k*size) hblk;have hf2:=Fr.setCells (.inl hFg) zs (k*size) (Fr.refl F w);have hkn:k*size≤n*size:=Nat.mul_le_mul_right _ hk;refine ⟨⟨⟨by rw [List.length_take];omega,.inr ⟨g,c,_,rfl,Nat.zero_le _,hb2,Nat.le_trans hk hnc,hcm,by rw [iC,hcs],?_⟩⟩,fun g' hg' =>h.2 g' hg'⟩,hf2⟩;rw [iD _ _ _ (by rw [hcs];exact hz),List.append_assoc,List.take_append_of_le_length (by rw [List.length_take,Array.length_toList,hcs];omega),List.take_take,Nat.min_self,←htk,List.take_take,Nat.min_eq_left hkn]
theorem af5:(Tryz.prog.info? TLe).map (fun i=>(i.zero,i.size,i.bytes))=some (some (.agg #[.int .i64 0,.int .i64 0,.int .i64 0,.int .i64 0]),4,4*8):=by kernel_rfl
def aki (w:World)(F:Nat→Prop)(A:Option Addr)(c:Nat)(l:List Le)(e:Ending)(w' :World):Prop:=e= .returned (.slice A l.length c)∧aA w' F TLe 4 (.slice A l.length c) l.length (leV l)∧Fr F w w'
theorem ani {w:World}{F:Nat→Prop}{A:Option Addr}{c:Nat}{l:List Le}(h:aA w F TLe 4 (.slice A l.length c) l.length (leV l))(q:Nat)(p:Le→Bool)
  (hp:∀V,Fr F w V→∀x:Le,Calls Tryz.prog 168 #[.agg #[.int .i64 x.it,.int .i64 x.cl,.int .i64 x.ep,.int .i64 x.un],.pointer (some ⟨q,0,none⟩)] V fun e w' =>e= .returned (.bool (p x))∧Fr No V w'):
  Calls Tryz.prog 167 #[.slice A l.length c,.func (.func 168) #[] #[.pointer (some ⟨q,0,none⟩)]] w (aki w F A c (l.filter fun x=> !p x)):=by
 obtain ⟨i0,hi0,hz0,hz1,hz2⟩:=info_parts af5;obtain ⟨hnc,hcm⟩:=h.cap;have hA:A=none→l.length=0:=by obtain ⟨_,_,e,n0⟩:=h.form;cases e;exact n0
 have hix:=amf hA h.rd hnc hcm q p (fun V hV=>hp V (hV.mono fun _ h=>h.elim))
 rcases yR p l with ⟨hi1,hi2⟩|⟨k,hi1,hi2,hi3⟩
 ·rw [hi1] at hix
  rw [hi2];have H:=O h;clear h hp hA hi1 hi2;have HIX:=O hix;clear hix
  go_in
  go_wp2_with fail
  refine HIX.out.mono ?_;rintro e w1 ⟨rfl,f1⟩;have F1:=O f1;clear f1
  go_wp2_with fail
  go_ret
  exact ⟨rfl,H.out.au F1.out,F1.out.mono fun _ h=>h.elim⟩
 rw [hi1] at hix;obtain ⟨g,rfl⟩:∃g,A=some ⟨g,0,none⟩:=by
  rcases h.1.2 with ⟨h0,h1⟩|⟨g',cap,cur,hv,_⟩
  ·injection h0 with e1 e2 e3;omega
  ·injection hv with e1;exact ⟨g',e1⟩
 have hk1:((k:Int) == -1)=false:=by simp
 have hk2:(k:Int)≠-1:=by omega
 have HI3:=O hi3;unfold maxLen at hcm;have hH:=h;clear h hA hi1 hi3;obtain ⟨HIX,HH,HP,HZ0,HZ1,HZ2,HI0⟩:=jo hix hH hp hz0 hz1 hz2 hi0;clear hix hH hp hz0 hz1 hz2 hi0
 go_in
 go_wp2_with fail
 refine HIX.out.mono ?_;rintro e w1 ⟨rfl,f1⟩;have F1:=O f1;clear f1
 go_wp2_with fail
 go_loopw [5,6] (fun i j wr=>∃(ki kj:Nat) (R:List Le),ki<kj∧kj≤l.length∧i= .int .i64 ki∧j= .int .i64 kj∧R.length=l.length∧(l.take kj).filter (fun x=> !p x)=R.take ki∧R.drop kj=l.drop kj∧aA wr F TLe 4 (.slice (some ⟨g,0,none⟩) l.length c) l.length (leV R)∧Fr F w wr) (fun _ j _=>l.length-(intOf j).toNat)
 case atStart=>exact ⟨k,k+1,l,by omega,by omega,rfl,by go_num,rfl,HI3.out,rfl,HH.out.au F1.out,F1.out.mono fun _ h=>h.elim⟩
 case round=>
  obtain ⟨ki,kj,R,hij,hkj,rfl,rfl,hRl,atv,at0,hown,hf⟩:=hrel;obtain ⟨ao9,apc,HOWN,HF,HRL⟩:=jq atv at0 hown hf hRl;clear atv at0 hown hf F1 HIX
  by_cases hlt:kj<l.length
  ·obtain ⟨b,off,x,hA,hx,hcl⟩:=HOWN.out.rd.afc (i:=kj) (by rw [HRL.out];exact hlt)
   obtain ⟨rfl,rfl⟩:g=b∧0=off:=by
    rw [Option.some.injEq,Addr.mk.injEq] at hA;exact ⟨hA.1,hA.2.1⟩
   simp only [Nat.zero_add] at hcl;obtain ⟨x0,x1,x2,x3⟩:=hcl wr (Fr.refl _ _);have hlx:l[kj]? =some x:=by
    have h1:(R.drop kj)[0]? =some x:=by rw [List.getElem?_drop,Nat.add_zero];exact hx
    rw [apc.out,List.getElem?_drop,Nat.add_zero] at h1;exact h1
   obtain ⟨HLX,HX⟩:=aN hlx hx;obtain ⟨z,hz⟩:∃z,z=p x:=⟨_,rfl⟩;have HZ:=O hz;have hpx:=fun V (hV:Fr F w V)=>HP.out V hV x;rw [←hz] at hpx;obtain ⟨akk,ah1,ah0,agw⟩:=x;simp only at x0 x1 x2 x3 hpx;have HPX:=O hpx;clear hcl hpx hx hlx hz hA
   go_upto_region 8 with fail
   obtain ⟨w5,hw5⟩:∃w5,w5=wr.alloc (.cells #[.int .i64 akk,.int .i64 ah1,.int .i64 ah0,.int .i64 agw] TLe):=⟨_,rfl⟩;obtain ⟨g7,hg7⟩:∃g7,g7=wr.heap.size:=⟨_,rfl⟩;have hb7:Blk w5 g7 TLe #[.int .i64 akk,.int .i64 ah1,.int .i64 ah0,.int .i64 agw]:=by rw [hw5,hg7];exact Blk.new _ _ _
   have f5:Fr No wr w5:=by rw [hw5];exact aj _ _
   rw [←hw5,←hg7];have b0:w5.cell? ⟨g7,0,none⟩=some (.int .i64 akk):=hb7.cell 0;have b1:w5.cell? ⟨g7,1,none⟩=some (.int .i64 ah1):=hb7.cell 1;have b2:w5.cell? ⟨g7,2,none⟩=some (.int .i64 ah0):=hb7.cell 2;have b3:w5.cell? ⟨g7,3,none⟩=some (.int .i64 agw):=hb7.cell 3;have hbg:g<wr.heap.size:=HOWN.out.lt g rfl;have hne:g≠g7:=by omega
   have hne' :g7≠g:=by omega
   obtain ⟨HB7,F5⟩:=aN hb7 f5;clear hw5 hg7 hb7 f5 x0 x1 x2 x3 hbg
   go_wp2_with fail
   refine (HPX.out _ (HF.out.trans F5.out (fun _ h=>h.elim))).mono ?_;rintro e w6 ⟨rfl,f6⟩;clear b0 b1 b2 b3;have b0:=(HB7.out.fr f6 id).cell 0;have b1:=(HB7.out.fr f6 id).cell 1;have b2:=(HB7.out.fr f6 id).cell 2;have b3:=(HB7.out.fr f6 id).cell 3;have F6:=O (F5.out.ah f6);clear f6 F5
   rcases z with _|_
   ·have aw1:=HOWN.out.ahq
    obtain ⟨cur,hbl,hcz,hFb⟩:=aw1;replace hbl:=hbl.fr F6.out id;obtain ⟨b2,off2,y,hA2,_,akr⟩:=HOWN.out.rd.afc (i:=ki) (by rw [HRL.out];omega);obtain ⟨rfl,rfl⟩:g=b2∧0=off2:=by
     rw [Option.some.injEq,Addr.mk.injEq] at hA2;exact ⟨hA2.1,hA2.2.1⟩
    simp only [Nat.zero_add] at akr;obtain ⟨d0,d1,d2,d3⟩:=akr w6 F6.out;have p0:=hbl.frozen (ki*4);have p1:=hbl.frozen (ki*4+1);have p2:=hbl.frozen (ki*4+2);have p3:=hbl.frozen (ki*4+3);have hset:=(HOWN.out.au F6.out).apo (i:=ki) oy ⟨akk,ah1,ah0,agw⟩;simp only at hset;have aj9:=O hset;clear hset akr hbl hcz hFb hA2
    go_wp2_with fail
    go_roundw
    case rel=>exact ⟨ki+1,kj+1,R.set ki ⟨akk,ah1,ah0,agw⟩,by omega,by omega,by go_num,by go_num,by rw [List.length_set];exact HRL.out,(by
     rw [List.take_add_one,HLX.out,List.filter_append,ao9.out,List.take_add_one,List.take_set_of_le (Nat.le_refl _),List.getElem?_set_self (by rw [HRL.out];omega)]
     simp [←HZ.out]),(by rw [List.drop_set_of_lt oy,←List.drop_drop,apc.out,List.drop_drop]),aj9.out.1,(HF.out.trans F6.out (fun _ h=>h.elim)).trans aj9.out.2 (fun _ h=> .inl h)⟩
    case measure=>simp [intOf];omega
   ·go_wp2_with fail
    go_roundw
    case rel=>exact ⟨ki,kj+1,R,by omega,by omega,rfl,by go_num,HRL.out,(by rw [List.take_add_one,HLX.out,List.filter_append];simp [←HZ.out];exact ao9.out),(by rw [←List.drop_drop,apc.out,List.drop_drop]),HOWN.out.au F6.out,HF.out.trans F6.out (fun _ h=>h.elim)⟩
    case measure=>simp [intOf];omega
  ·have hkl:kj=l.length:=by omega
   subst hkl;have ht:Tryz.prog.underlying 198=some (.slice TLe):=by kernel_rfl
   obtain ⟨ad,hs2,had⟩:=jU 198 TLe ht i0 HI0.out g l.length c ki oy;have hs1:=rD 198 TLe ht i0 HI0.out g l.length c ki oy;have aul :=had oy;rw [HZ1.out] at aul;subst aul;obtain ⟨cur,hbl,hcz,hFg⟩:=HOWN.out.ahq;have hzl:=zI (Value.cells (.agg #[.int .i64 0,.int .i64 0,.int .i64 0,.int .i64 0])) (l.length-ki);have hzs:(Value.cells (.agg #[.int .i64 0,.int .i64 0,.int .i64 0,.int .i64 0])).size=4:=rfl;rw [hzs] at hzl;have ahh:=HOWN.out.clr (k:=ki) oy (Builtin.zeroCells (Value.cells (.agg #[.int .i64 0,.int .i64 0,.int .i64 0,.int .i64 0])) (l.length-ki)).toList (by rw [hzl];omega);obtain ⟨W2,hW2⟩:∃W2,W2=wr.setCells g (ki*4) (Builtin.zeroCells (Value.cells (.agg #[.int .i64 0,.int .i64 0,.int .i64 0,.int .i64 0])) (l.length-ki)).toList:=⟨_,rfl⟩;have hcl:∀ty,(Builtin.clear_ #[198] ty #[.slice (some ⟨g,ki*4,none⟩) (l.length-ki) (c-ki)]).run Tryz.prog wr= .ok (.tuple #[]) W2:=by
    intro ty;rw [hW2];refine jy wr _ TLe ty _ ht (fun w=>by simp [zeroValue,typeInfo,HI0.out,HZ0.out]) dcd (by intro v hv;simp [Value.cells] at hv;subst hv;rfl) g _ _ _ oy (fun j hj=> ?_) (fun j hj=>hbl.frozen _);rw [hzs] at hj;rw [hbl.cell,Array.getElem?_eq_getElem oy]
    rfl
   rw [←hW2] at ahh;have hfx:l.filter (fun x=> !p x)=R.take ki:=by have:=ao9.out;rwa [List.take_length] at this
   have hlk:(R.take ki).length=ki:=by rw [List.length_take,HRL.out];omega
   obtain ⟨HFX,HLK,ape⟩:=bC hfx hlk ahh;have hki:(ki:Int)≤(l.length:Int):=by omega
   have ayq:(ki:Int)≤(c:Int):=by omega
   clear hfx hlk ahh hzl hzs hbl hcz hFg hW2 had ao9 apc
   go_wp2_with fail
   go_ret
   rw [HFX.out];refine ⟨(by rw [HLK.out];rfl),?_,HF.out.trans ape.out.2 (fun _ h=> .inl h)⟩;have h3:=ape.out.1;rw [wW] at h3;rw [HLK.out];exact h3
end Go.Proofs.YtodkhcbjpodgeaaGreat
