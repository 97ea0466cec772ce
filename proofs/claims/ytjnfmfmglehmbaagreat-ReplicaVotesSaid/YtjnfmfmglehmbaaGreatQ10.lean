/-
  The contracts of the reference's shapes of entries.
-/
import Derived.Test.YtjnfmfmglehmbaaGreatQ06
import Derived.Deep.RegionHeld3
import Derived.Deep.DeepCutAuto
import Derived.IntWalk
namespace Go.Proofs.YtjnfmfmglehmbaaGreat
open Go.ChangeShapes Go.WideShapes Go.ChangeAt Go.RowKit
set_option linter.unusedVariables false
set_option maxRecDepth 100000
set_option maxHeartbeats 4000000
theorem lY (n lo hi:Int)(w:World):
  Calls Tryz.prog 180 #[.int .i64 n,.int .i64 lo,.int .i64 hi] w fun e w' =>e= .returned (.bool (inB lo hi n))∧w=w' :=by
 by_cases h1:lo≤n
 ·by_cases h2:n≤hi
  ·go_in
   go_wp2_with fail
   go_ret
   exact ⟨au (by simp [inB,h1,h2]),rfl⟩
  ·go_in
   go_wp2_with fail
   go_ret
   exact ⟨au (by simp [inB,h1,h2]),rfl⟩
 ·go_in
  go_wp2_with fail
  go_ret
  exact ⟨au (by unfold inB;rw [dff];rfl),rfl⟩
theorem abk (k:Int):(nH k).length≤6:=by
 have hcase:k=1∨k=2∨k=3∨k=4∨k=5∨k=6∨k=7∨k=8∨k=9∨k=10∨k=11∨k=12∨k=13∨k=14∨k=15∨k=16∨(k<1∨16<k):=by omega
 rcases hcase with rfl|rfl|rfl|rfl|rfl|rfl|rfl|rfl|rfl|rfl|rfl|rfl|rfl|rfl|rfl|rfl|hk
 iterate 16 ·decide
 have hu:nH k=[63]:=by unfold nH;repeat (first|rw [if_neg oy]|rfl)
 rw [hu]
 decide
set_option maxHeartbeats 2000000 in
theorem ae8 (k:Int)(w:World):
  Calls Tryz.prog 188 #[.int .i64 k] w fun e w' =>e= .returned (.string ⟨(nH k).toArray⟩)∧Fr No w w' :=by
 have hcase:k=1∨k=2∨k=3∨k=4∨k=5∨k=6∨k=7∨k=8∨k=9∨k=10∨k=11∨k=12∨k=13∨k=14∨k=15∨k=16∨k<1∨16<k:=by omega
 rcases hcase with rfl|rfl|rfl|rfl|rfl|rfl|rfl|rfl|rfl|rfl|rfl|rfl|rfl|rfl|rfl|rfl|hk|hk
 iterate 16
  ·go_in
   go_wp2_with fail
   go_ret
   exact ⟨rfl,(Fr.refl _ _).alloc _⟩
 ·have hu:nH k=[63]:=by unfold nH;repeat (first|rw [if_neg oy]|rfl)
  rw [hu];clear hu;have t1:decide (k<1)=true:=by simp;omega
  go_in
  go_wp2_with fail
  go_ret
  exact ⟨rfl,(Fr.refl _ _).alloc _⟩
 ·have hu:nH k=[63]:=by unfold nH;repeat (first|rw [if_neg oy]|rfl)
  rw [hu];clear hu;have t1:decide (k<1)=false:=by simp;omega
  have t2:decide (17≤k)=true:=by simp;omega
  go_in
  go_wp2_with fail
  go_ret
  exact ⟨rfl,(Fr.refl _ _).alloc _⟩
theorem amg (l:List UInt8)(j:Nat)(x:UInt8)(h:j<(⟨l.toArray⟩:ByteArray).size)(hx:l[j]? =some x):(⟨l.toArray⟩:ByteArray)[j]=x:=by
 have h1:j<l.length:=by
  have h2:j<l.toArray.size:=h
  rwa [List.size_toArray] at h2
 rw [List.getElem?_eq_getElem h1] at hx;injection hx
theorem afp (k:Int)(c:UInt8)(w:World):
  Calls Tryz.prog 186 #[.int .i64 k,bv c] w fun e w' =>e= .returned (.bool (kW k c))∧Fr No w w' :=by
 have hll:=abk k;have hC:=fun W=>ae8 k W;unfold kW;revert hC hll;generalize nH k=l;intro hll hC;have HC:=O hC;clear hC
 go_in
 go_wp2_with fail
 refine (HC.out _).mono ?_;rintro e w1 ⟨rfl,f1⟩;have F1:=O f1;clear f1
 go_wp2_with fail
 go_loopw [6] (fun i wr=>∃j:Nat,i= .int .i64 j∧j≤l.length∧(∀m,(hm:m<j)→l[m]?≠some c)∧wr=w1) (fun i _=>l.length-(intOf i).toNat)
 case atStart=>exact ⟨0,rfl,Nat.zero_le _,fun m hm=>absurd hm (Nat.not_lt_zero _),rfl⟩
 case round=>
  obtain ⟨j,rfl,hj,hno,rfl⟩:=hrel;have HNO:=O hno;clear hno
  by_cases hlt:j<l.length
  ·obtain ⟨x,hx⟩:∃x,l[j]? =some x:=⟨_,List.getElem?_eq_getElem hlt⟩
   have hg:=amg l j x (by show j<l.toArray.size;rwa [List.size_toArray]) hx;have HX:=O hx;clear hx
   by_cases hxc:x=c
   ·subst hxc
    go_wp2_with fail
    go_ret
    refine ⟨au ?_,F1.out⟩;exact (List.contains_iff_mem.2 (List.mem_of_getElem? HX.out)).symm
   ·have hq:((x.toNat:Int) == (c.toNat:Int))=false:=by
     simp only [beq_eq_false_iff_ne,ne_eq,Int.natCast_inj];exact fun h=>hxc (UInt8.toNat_inj.1 h)
    go_wp2_with fail
    go_roundw
    case rel=>
     refine ⟨j+1,by go_num,by omega,fun m hm=> ?_,trivial⟩
     rcases Nat.lt_or_ge m j with h|h
     ·exact HNO.out m h
     ·obtain rfl:m=j:=by omega
      rw [HX.out];exact fun h=>hxc (Option.some.inj h)
    case measure=>simp [intOf];omega
  ·go_wp2_with fail
   go_ret
   refine ⟨au ?_,F1.out⟩
   symm
   rw [Bool.eq_false_iff];intro h;rw [List.contains_iff_mem] at h;obtain ⟨m,hm,he⟩:=List.getElem_of_mem h;exact HNO.out m oy (by rw [List.getElem?_eq_getElem hm,he])
def gQ (k m:Int):Bool:=kW k (UInt8.ofNat m.toNat)
theorem fP (k m:Int)(w:World)(h:0≤m∧m<256):
  Calls Tryz.prog 186 #[.int .i64 k,.int .u8 m] w fun e w' =>e= .returned (.bool (gQ k m))∧Fr No w w' :=by
 have:=afp k (UInt8.ofNat m.toNat) w;have hm:bv (UInt8.ofNat m.toNat)= .int .u8 m:=by
  unfold bv
  congr 1
  rw [UInt8.toNat_ofNat']
  omega
 rw [hm] at this;exact this
theorem zo (k:Int):kW k 116=gQ k 116:=rfl
theorem zw (k:Int):kW k 99=gQ k 99:=rfl
theorem zx (k:Int):kW k 67=gQ k 67:=rfl
theorem zu (k:Int):kW k 111=gQ k 111:=rfl
theorem zq (k:Int):kW k 114=gQ k 114:=rfl
theorem al4 (k:Int):kW k 101=gQ k 101:=rfl
theorem al0 (k:Int):kW k 119=gQ k 119:=rfl
theorem al1 (k:Int):kW k 118=gQ k 118:=rfl
theorem al5 (k:Int):kW k 98=gQ k 98:=rfl
theorem al3 (k:Int):kW k 109=gQ k 109:=rfl
theorem al2 (k:Int):kW k 110=gQ k 110:=rfl
theorem xO (e:En)(nv:Int)(w:World)(h1: -4611686018427387904≤nv)(h2:nv≤4611686018427387904):
  Calls Tryz.prog 182 #[e.v,.int .i64 nv] w fun r w' =>r= .returned (.bool (mQ e nv))∧Fr No w w' :=by
 obtain ⟨k,tick,te,ce,ot,ep,fr,un,n⟩:=e;unfold En.v;have hcase:∃b1 b2:Bool,gQ k 101=b1∧gQ k 119=b2:=⟨_,_,rfl,rfl⟩;obtain ⟨b1,b2,e1,e2⟩:=hcase;obtain ⟨p,hp⟩:∃p:Bool,inB 0 1073741824 fr=p:=⟨_,rfl⟩;obtain ⟨q,hq⟩:∃q:Bool,(fr == 0)=q:=⟨_,rfl⟩;obtain ⟨FF,BB⟩:=aO (aj w (.cells #[.int .i64 k,.int .i64 tick,.int .i64 te,.int .i64 ce,.int .i64 ot,.int .i64 ep,.int .i64 fr,.int .i64 un,.int .i64 n] dR)) (Blk.new w dR #[.int .i64 k,.int .i64 tick,.int .i64 te,.int .i64 ce,.int .i64 ot,.int .i64 ep,.int .i64 fr,.int .i64 un,.int .i64 n]);obtain ⟨c0,c1,c2,c3,c4,c5,c6,c7,c8⟩:=aB BB.out
 cases b1<;>cases b2<;>cases p<;>cases q
 all_goals
  go_in
  go_wp2_with (first
   |(go_at_call 186;refine (fP k _ _ dcd).mono ?_;rintro e w5 ⟨rfl,f5⟩;replace FF:=O (FF.out.ah f5);replace BB:=O (BB.out.fr f5 id);clear f5 c0 c1 c2 c3 c4 c5 c6 c7 c8;obtain ⟨c0,c1,c2,c3,c4,c5,c6,c7,c8⟩:=aB BB.out)
   |(go_at_call 180;refine (lY _ _ _ _).mono ?_;rintro e w5 ⟨rfl,rfl⟩))
  all_goals
   go_ret
   refine ⟨au ?_,FF.out⟩;simp only [mQ,al4,al0,al1,al5,al3,al2]
   simp_all
theorem wR (k:Int):(gQ k 116=true∧gQ k 99=true∧gQ k 67=false∧gQ k 111=true∧gQ k 114=false)∨(gQ k 116=true∧gQ k 99=true∧gQ k 67=false∧gQ k 111=false∧gQ k 114=false)∨
  (gQ k 116=true∧gQ k 99=false∧gQ k 67=false∧gQ k 111=false∧gQ k 114=false)∨(gQ k 116=true∧gQ k 99=false∧gQ k 67=true∧gQ k 111=false∧gQ k 114=false)∨
  (gQ k 116=false∧gQ k 99=true∧gQ k 67=false∧gQ k 111=false∧gQ k 114=false)∨(gQ k 116=false∧gQ k 99=false∧gQ k 67=false∧gQ k 111=false∧gQ k 114=true)∨
  (gQ k 116=false∧gQ k 99=false∧gQ k 67=false∧gQ k 111=false∧gQ k 114=false):=by
 have hcase:k=1∨k=2∨k=3∨k=4∨k=5∨k=6∨k=7∨k=8∨k=9∨k=10∨k=11∨k=12∨k=13∨k=14∨k=15∨k=16∨(k<1∨16<k):=by omega
 rcases hcase with rfl|rfl|rfl|rfl|rfl|rfl|rfl|rfl|rfl|rfl|rfl|rfl|rfl|rfl|rfl|rfl|hk
 iterate 16 ·decide
 have hu:nH k=[63]:=by unfold nH;repeat (first|rw [if_neg oy]|rfl)
 unfold gQ kW;rw [hu]
 decide
theorem aaf (e:En)(nt nc nr:Int)(w:World)(h1: -4611686018427387904≤nt)(h2:nt≤4611686018427387904)(h3: -4611686018427387904≤nc)(h4:nc≤4611686018427387904)(h5: -4611686018427387904≤nr)(h6:nr≤4611686018427387904):
  Calls Tryz.prog 181 #[e.v,.int .i64 nt,.int .i64 nc,.int .i64 nr] w fun r w' =>r= .returned (.bool (jV e nt nc nr))∧Fr No w w' :=by
 obtain ⟨k,tick,te,ce,ot,ep,fr,un,n⟩:=e;unfold En.v;obtain ⟨FF,BB⟩:=aO (aj w (.cells #[.int .i64 k,.int .i64 tick,.int .i64 te,.int .i64 ce,.int .i64 ot,.int .i64 ep,.int .i64 fr,.int .i64 un,.int .i64 n] dR)) (Blk.new w dR #[.int .i64 k,.int .i64 tick,.int .i64 te,.int .i64 ce,.int .i64 ot,.int .i64 ep,.int .i64 fr,.int .i64 un,.int .i64 n]);obtain ⟨c0,c1,c2,c3,c4,c5,c6,c7,c8⟩:=aB BB.out;obtain ⟨q,hq⟩:∃q:Bool,(te != -1)=q:=⟨_,rfl⟩;obtain ⟨p,hp⟩:∃p:Bool,inB (-1) (nc-1) ot=p:=⟨_,rfl⟩;have hw1:IntKind.i64.wrap (nt-1)=nt-1:=IntWalk.i64_in _ oy;have hw2:IntKind.i64.wrap (nc-1)=nc-1:=IntWalk.i64_in _ oy;have hw3:IntKind.i64.wrap (nr-1)=nr-1:=IntWalk.i64_in _ oy
 by_cases hm:gQ k 116=(te != -1)
 ·rcases wR k with ⟨u1,u2,u3,u4,u5⟩|⟨u1,u2,u3,u4,u5⟩|⟨u1,u2,u3,u4,u5⟩|⟨u1,u2,u3,u4,u5⟩|⟨u1,u2,u3,u4,u5⟩|⟨u1,u2,u3,u4,u5⟩|⟨u1,u2,u3,u4,u5⟩
  all_goals
   rw [u1] at hm;replace hm:=hm.symm;rw [hm] at hq;subst hq
  ·cases p
   all_goals
    go_in
    go_wp2_with fail
    replace FF:=O FF.out.drew;replace BB:=O (pI BB.out)
    go_region_held3 (fun V=>Fr No w V∧Blk V w.heap.size dR #[.int .i64 k,.int .i64 tick,.int .i64 te,.int .i64 ce,.int .i64 ot,.int .i64 ep,.int .i64 fr,.int .i64 un,.int .i64 n]∧V.cell? ⟨w.heap.size,2,none⟩=some (.int .i64 te)) (exact ⟨FF.out,BB.out,c2⟩) (first
    |(go_at_call 186;refine (fP k _ _ dcd).mono ?_;rintro e w5 ⟨rfl,f5⟩;replace FF:=O (FF.out.ah f5);replace BB:=O (BB.out.fr f5 id);clear f5 c0 c1 c2 c3 c4 c5 c6 c7 c8;obtain ⟨c0,c1,c2,c3,c4,c5,c6,c7,c8⟩:=aB BB.out)
    |(go_at_call 180;refine (lY _ _ _ _).mono ?_;rintro e w5 ⟨rfl,rfl⟩))
    all_goals
     go_wp2_with (first
    |(go_at_call 186;refine (fP k _ _ dcd).mono ?_;rintro e w5 ⟨rfl,f5⟩;replace FF:=O (FF.out.ah f5);replace BB:=O (BB.out.fr f5 id);clear f5 c0 c1 c2 c3 c4 c5 c6 c7 c8;obtain ⟨c0,c1,c2,c3,c4,c5,c6,c7,c8⟩:=aB BB.out)
    |(go_at_call 180;refine (lY _ _ _ _).mono ?_;rintro e w5 ⟨rfl,rfl⟩))
    all_goals
     go_ret
     refine ⟨au ?_,FF.out⟩;simp only [jV,zo,zw,zx,zu,zq]
     simp_all
  iterate 3
   ·clear hp
    go_in
    go_wp2_with fail
    replace FF:=O FF.out.drew;replace BB:=O (pI BB.out)
    go_region_held3 (fun V=>Fr No w V∧Blk V w.heap.size dR #[.int .i64 k,.int .i64 tick,.int .i64 te,.int .i64 ce,.int .i64 ot,.int .i64 ep,.int .i64 fr,.int .i64 un,.int .i64 n]∧V.cell? ⟨w.heap.size,2,none⟩=some (.int .i64 te)) (exact ⟨FF.out,BB.out,c2⟩) (first
    |(go_at_call 186;refine (fP k _ _ dcd).mono ?_;rintro e w5 ⟨rfl,f5⟩;replace FF:=O (FF.out.ah f5);replace BB:=O (BB.out.fr f5 id);clear f5 c0 c1 c2 c3 c4 c5 c6 c7 c8;obtain ⟨c0,c1,c2,c3,c4,c5,c6,c7,c8⟩:=aB BB.out)
    |(go_at_call 180;refine (lY _ _ _ _).mono ?_;rintro e w5 ⟨rfl,rfl⟩))
    all_goals
     go_wp2_with (first
    |(go_at_call 186;refine (fP k _ _ dcd).mono ?_;rintro e w5 ⟨rfl,f5⟩;replace FF:=O (FF.out.ah f5);replace BB:=O (BB.out.fr f5 id);clear f5 c0 c1 c2 c3 c4 c5 c6 c7 c8;obtain ⟨c0,c1,c2,c3,c4,c5,c6,c7,c8⟩:=aB BB.out)
    |(go_at_call 180;refine (lY _ _ _ _).mono ?_;rintro e w5 ⟨rfl,rfl⟩))
    all_goals
     go_ret
     refine ⟨au ?_,FF.out⟩;simp only [jV,zo,zw,zx,zu,zq]
     simp_all
  all_goals
   clear hp
   go_in
   go_wp2_with fail
   replace FF:=O FF.out.drew;replace BB:=O (pI BB.out);refine wp_region_held_drew (S:=fun V=>Fr No w V∧Blk V w.heap.size dR #[.int .i64 k,.int .i64 tick,.int .i64 te,.int .i64 ce,.int .i64 ot,.int .i64 ep,.int .i64 fr,.int .i64 un,.int .i64 n]∧V.cell? ⟨w.heap.size,2,none⟩=some (.int .i64 te)) (by kernel_rfl) ⟨FF.out,BB.out,c2⟩ (fun hHeld=> ?_);refine wpAnyH_take (i:=0) (v:= ?_) rfl (by kernel_rfl) (by kernel_rfl) (by kernel_rfl) (fun _ _ _ h=>h) (Or.inl ⟨by rfl,?_⟩) (by assumption) ?_
   rotate_left
   ·(intro w hSw;(try dsimp only at hSw);go_simp)<;>with_reducible rfl
   simp only [Act.put,List.setIfInBounds_toArray,List.set_cons_zero,List.set_cons_succ,List.getElem_toArray,List.getElem_cons_zero];refine wpAnyH_take (i:=2) (v:= ?_) rfl (by kernel_rfl) (by kernel_rfl) (by kernel_rfl) (fun _ _ _ h=>h) (Or.inl ⟨by rfl,?_⟩) (by assumption) ?_
   rotate_left
   ·(intro w hSw;(try dsimp only at hSw);go_simp)<;>with_reducible rfl
   simp only [Act.put,List.setIfInBounds_toArray,List.set_cons_zero,List.set_cons_succ,List.getElem_toArray,List.getElem_cons_zero,List.getElem_cons_succ];refine wpAnyH_take (i:=3) (v:= ?_) rfl (by kernel_rfl) (by kernel_rfl) (by kernel_rfl) (fun _ _ _ h=>h) (Or.inl ⟨by rfl,?_⟩) (by assumption) ?_
   rotate_left
   ·(intro w hSw;(try dsimp only at hSw);go_simp)<;>with_reducible rfl
   simp only [Act.put,List.setIfInBounds_toArray,List.set_cons_zero,List.set_cons_succ,List.getElem_toArray,List.getElem_cons_zero,List.getElem_cons_succ];refine wpAnyH_take (i:=4) (v:= ?_) rfl (by kernel_rfl) (by kernel_rfl) (by kernel_rfl) (fun _ _ _ h=>h) (Or.inl ⟨by rfl,?_⟩) (by assumption) ?_
   rotate_left
   ·(intro w hSw;(try dsimp only at hSw);go_simp)<;>with_reducible rfl
   simp only [Act.put,List.setIfInBounds_toArray,List.set_cons_zero,List.set_cons_succ,List.getElem_toArray,List.getElem_cons_zero,List.getElem_cons_succ];refine wpAnyH_ready (rs:=[1]) (by kernel_rfl) (by simp) (AllReadyH.cons rfl (fun K hK=> ?_) AllReadyH.nil)
   go_simp
   refine (fP k _ _ dcd).mono ?_;rintro e w5 ⟨rfl,f5⟩;replace FF:=O (FF.out.ah f5);replace BB:=O (BB.out.fr f5 id);clear f5 c0 c1 c2 c3 c4 c5 c6 c7 c8;obtain ⟨c0,c1,c2,c3,c4,c5,c6,c7,c8⟩:=aB BB.out
   go_wp2_with fail
   refine hK.out _ _ ⟨FF.out,BB.out,c2⟩ (fun hHeld=> ?_);clear hK K
   try simp only [Act.put,List.setIfInBounds_toArray,List.set_cons_zero,List.set_cons_succ,List.getElem_toArray,List.getElem_cons_zero,List.getElem_cons_succ]
   refine wpAnyH_take (i:=5) (v:= ?_) rfl (by kernel_rfl) (by kernel_rfl) (by kernel_rfl) (fun _ _ _ h=>h) (Or.inl ⟨by rfl,?_⟩) (by assumption) ?_
   rotate_left
   ·(intro w hSw;(try dsimp only at hSw);go_simp)<;>with_reducible rfl
   simp only [Act.put,List.setIfInBounds_toArray,List.set_cons_zero,List.set_cons_succ,List.getElem_toArray,List.getElem_cons_zero,List.getElem_cons_succ];refine wpAnyH_take (i:=6) (v:= ?_) rfl (by kernel_rfl) (by kernel_rfl) (by kernel_rfl) (fun _ _ _ h=>h) (Or.inl ⟨by rfl,?_⟩) (by assumption) ?_
   rotate_left
   ·(intro w hSw;(try dsimp only at hSw);go_simp)<;>with_reducible rfl
   simp only [Act.put,List.setIfInBounds_toArray,List.set_cons_zero,List.set_cons_succ,List.getElem_toArray,List.getElem_cons_zero,List.getElem_cons_succ];refine wpAnyH_take (i:=7) (v:= ?_) rfl (by kernel_rfl) (by kernel_rfl) (by kernel_rfl) (fun _ _ _ h=>h) (Or.inl ⟨by rfl,?_⟩) (by assumption) ?_
   rotate_left
   ·(intro w hSw;(try dsimp only at hSw);go_simp)<;>with_reducible rfl
   simp only [Act.put,List.setIfInBounds_toArray,List.set_cons_zero,List.set_cons_succ,List.getElem_toArray,List.getElem_cons_zero,List.getElem_cons_succ];refine wpAnyH_ready (rs:=[8]) (by kernel_rfl) (by simp) (AllReadyH.cons rfl (fun K hK=> ?_) AllReadyH.nil)
   go_simp
   refine (fP k _ _ dcd).mono ?_;rintro e w5 ⟨rfl,f5⟩;replace FF:=O (FF.out.ah f5);replace BB:=O (BB.out.fr f5 id);clear f5 c0 c1 c2 c3 c4 c5 c6 c7 c8;obtain ⟨c0,c1,c2,c3,c4,c5,c6,c7,c8⟩:=aB BB.out
   go_wp2_with fail
   refine hK.out _ _ ⟨FF.out,BB.out,c2⟩ (fun hHeld=> ?_);clear hK K
   try simp only [Act.put,List.setIfInBounds_toArray,List.set_cons_zero,List.set_cons_succ,List.getElem_toArray,List.getElem_cons_zero,List.getElem_cons_succ]
   refine wpAnyH_take (i:=9) (v:= ?_) rfl (by kernel_rfl) (by kernel_rfl) (by kernel_rfl) (fun _ _ _ h=>h) (Or.inl ⟨by rfl,?_⟩) (by assumption) ?_
   rotate_left
   ·(intro w hSw;(try dsimp only at hSw);go_simp)<;>with_reducible rfl
   simp only [Act.put,List.setIfInBounds_toArray,List.set_cons_zero,List.set_cons_succ,List.getElem_toArray,List.getElem_cons_zero,List.getElem_cons_succ];refine wpAnyH_take (i:=10) (v:=undef) rfl (by kernel_rfl) (by kernel_rfl) (by kernel_rfl) (fun _ _ _ h=>h) (Or.inr ⟨by rfl,rfl⟩) (by assumption) ?_;simp only [Act.put,List.setIfInBounds_toArray,List.set_cons_zero,List.set_cons_succ,List.getElem_toArray,List.getElem_cons_zero,List.getElem_cons_succ];refine wpAnyH_take (i:=11) (v:=undef) rfl (by kernel_rfl) (by kernel_rfl) (by kernel_rfl) (fun _ _ _ h=>h) (Or.inr ⟨by rfl,rfl⟩) (by assumption) ?_;simp only [Act.put,List.setIfInBounds_toArray,List.set_cons_zero,List.set_cons_succ,List.getElem_toArray,List.getElem_cons_zero,List.getElem_cons_succ];refine wpAnyH_take (i:=12) (v:=undef) rfl (by kernel_rfl) (by kernel_rfl) (by kernel_rfl) (fun _ _ _ h=>h) (Or.inr ⟨by rfl,rfl⟩) (by assumption) ?_;simp only [Act.put,List.setIfInBounds_toArray,List.set_cons_zero,List.set_cons_succ,List.getElem_toArray,List.getElem_cons_zero,List.getElem_cons_succ];refine wpAnyH_take (i:=13) (v:=undef) rfl (by kernel_rfl) (by kernel_rfl) (by kernel_rfl) (fun _ _ _ h=>h) (Or.inr ⟨by rfl,rfl⟩) (by assumption) ?_;simp only [Act.put,List.setIfInBounds_toArray,List.set_cons_zero,List.set_cons_succ,List.getElem_toArray,List.getElem_cons_zero,List.getElem_cons_succ];refine wpAnyH_take (i:=14) (v:=undef) rfl (by kernel_rfl) (by kernel_rfl) (by kernel_rfl) (fun _ _ _ h=>h) (Or.inr ⟨by rfl,rfl⟩) (by assumption) ?_
   simp only [Act.put,List.setIfInBounds_toArray,List.set_cons_zero,List.set_cons_succ,List.getElem_toArray,List.getElem_cons_zero,List.getElem_cons_succ];refine wpAnyH_take (i:=15) (v:=undef) rfl (by kernel_rfl) (by kernel_rfl) (by kernel_rfl) (fun _ _ _ h=>h) (Or.inr ⟨by rfl,rfl⟩) (by assumption) ?_;simp only [Act.put,List.setIfInBounds_toArray,List.set_cons_zero,List.set_cons_succ,List.getElem_toArray,List.getElem_cons_zero,List.getElem_cons_succ];refine wpAnyH_take (i:=16) (v:= ?_) rfl (by kernel_rfl) (by kernel_rfl) (by kernel_rfl) (fun _ _ _ h=>h) (Or.inl ⟨by rfl,?_⟩) (by assumption) ?_
   rotate_left
   ·(intro w hSw;(try dsimp only at hSw);go_simp)<;>with_reducible rfl
   simp only [Act.put,List.setIfInBounds_toArray,List.set_cons_zero,List.set_cons_succ,List.getElem_toArray,List.getElem_cons_zero,List.getElem_cons_succ];refine wpAnyH_take (i:=17) (v:= ?_) rfl (by kernel_rfl) (by kernel_rfl) (by kernel_rfl) (fun _ _ _ h=>h) (Or.inl ⟨by rfl,?_⟩) (by assumption) ?_
   rotate_left
   ·(intro w hSw;(try dsimp only at hSw);go_simp)<;>with_reducible rfl
   simp only [Act.put,List.setIfInBounds_toArray,List.set_cons_zero,List.set_cons_succ,List.getElem_toArray,List.getElem_cons_zero,List.getElem_cons_succ];refine wpAnyH_done (by kernel_rfl) ?_ _
   all_goals
    go_wp2_with (first
   |(go_at_call 186;refine (fP k _ _ dcd).mono ?_;rintro e w5 ⟨rfl,f5⟩;replace FF:=O (FF.out.ah f5);replace BB:=O (BB.out.fr f5 id);clear f5 c0 c1 c2 c3 c4 c5 c6 c7 c8;obtain ⟨c0,c1,c2,c3,c4,c5,c6,c7,c8⟩:=aB BB.out)
   |(go_at_call 180;refine (lY _ _ _ _).mono ?_;rintro e w5 ⟨rfl,rfl⟩))
   all_goals
    go_ret
    refine ⟨au ?_,FF.out⟩;simp only [jV,zo,zw,zx,zu,zq]
    simp_all
 ·clear hp
  have hm2:(gQ k 116=true∧(te != -1)=false)∨(gQ k 116=false∧(te != -1)=true):=by
   cases h1:gQ k 116<;>cases h2:(te != -1)<;>simp_all
  clear hq hm
  rcases hm2 with ⟨u1,hm⟩|⟨u1,hm⟩
  all_goals
   go_in
   go_wp2_with fail
   replace FF:=O FF.out.drew;replace BB:=O (pI BB.out);refine wp_region_held_drew (S:=fun V=>Fr No w V∧Blk V w.heap.size dR #[.int .i64 k,.int .i64 tick,.int .i64 te,.int .i64 ce,.int .i64 ot,.int .i64 ep,.int .i64 fr,.int .i64 un,.int .i64 n]∧V.cell? ⟨w.heap.size,2,none⟩=some (.int .i64 te)) (by kernel_rfl) ⟨FF.out,BB.out,c2⟩ (fun hHeld=> ?_);refine wpAnyH_take (i:=0) (v:= ?_) rfl (by kernel_rfl) (by kernel_rfl) (by kernel_rfl) (fun _ _ _ h=>h) (Or.inl ⟨by rfl,?_⟩) (by assumption) ?_
   rotate_left
   ·(intro w hSw;(try dsimp only at hSw);go_simp)<;>with_reducible rfl
   simp only [Act.put,List.setIfInBounds_toArray,List.set_cons_zero,List.set_cons_succ,List.getElem_toArray,List.getElem_cons_zero];refine wpAnyH_take (i:=2) (v:= ?_) rfl (by kernel_rfl) (by kernel_rfl) (by kernel_rfl) (fun _ _ _ h=>h) (Or.inl ⟨by rfl,?_⟩) (by assumption) ?_
   rotate_left
   ·(intro w hSw;(try dsimp only at hSw);go_simp)<;>with_reducible rfl
   simp only [Act.put,List.setIfInBounds_toArray,List.set_cons_zero,List.set_cons_succ,List.getElem_toArray,List.getElem_cons_zero,List.getElem_cons_succ];refine wpAnyH_take (i:=3) (v:= ?_) rfl (by kernel_rfl) (by kernel_rfl) (by kernel_rfl) (fun _ _ _ h=>h) (Or.inl ⟨by rfl,?_⟩) (by assumption) ?_
   rotate_left
   ·(intro w hSw;(try dsimp only at hSw);go_simp)<;>with_reducible rfl
   simp only [Act.put,List.setIfInBounds_toArray,List.set_cons_zero,List.set_cons_succ,List.getElem_toArray,List.getElem_cons_zero,List.getElem_cons_succ];refine wpAnyH_take (i:=4) (v:= ?_) rfl (by kernel_rfl) (by kernel_rfl) (by kernel_rfl) (fun _ _ _ h=>h) (Or.inl ⟨by rfl,?_⟩) (by assumption) ?_
   rotate_left
   ·(intro w hSw;(try dsimp only at hSw);go_simp)<;>with_reducible rfl
   simp only [Act.put,List.setIfInBounds_toArray,List.set_cons_zero,List.set_cons_succ,List.getElem_toArray,List.getElem_cons_zero,List.getElem_cons_succ];refine wpAnyH_ready (rs:=[1]) (by kernel_rfl) (by simp) (AllReadyH.cons rfl (fun K hK=> ?_) AllReadyH.nil)
   go_simp
   refine (fP k _ _ dcd).mono ?_;rintro e w5 ⟨rfl,f5⟩;replace FF:=O (FF.out.ah f5);replace BB:=O (BB.out.fr f5 id);clear f5 c0 c1 c2 c3 c4 c5 c6 c7 c8;obtain ⟨c0,c1,c2,c3,c4,c5,c6,c7,c8⟩:=aB BB.out
   go_wp2_with fail
   refine hK.out _ _ ⟨FF.out,BB.out,c2⟩ (fun hHeld=> ?_);clear hK K
   try simp only [Act.put,List.setIfInBounds_toArray,List.set_cons_zero,List.set_cons_succ,List.getElem_toArray,List.getElem_cons_zero,List.getElem_cons_succ]
   refine wpAnyH_take (i:=5) (v:= ?_) rfl (by kernel_rfl) (by kernel_rfl) (by kernel_rfl) (fun _ _ _ h=>h) (Or.inl ⟨by rfl,?_⟩) (by assumption) ?_
   rotate_left
   ·(intro w hSw;(try dsimp only at hSw);go_simp)<;>with_reducible rfl
   simp only [Act.put,List.setIfInBounds_toArray,List.set_cons_zero,List.set_cons_succ,List.getElem_toArray,List.getElem_cons_zero,List.getElem_cons_succ];refine wpAnyH_take (i:=6) (v:= ?_) rfl (by kernel_rfl) (by kernel_rfl) (by kernel_rfl) (fun _ _ _ h=>h) (Or.inl ⟨by rfl,?_⟩) (by assumption) ?_
   rotate_left
   ·(intro w hSw;(try dsimp only at hSw);go_simp)<;>with_reducible rfl
   simp only [Act.put,List.setIfInBounds_toArray,List.set_cons_zero,List.set_cons_succ,List.getElem_toArray,List.getElem_cons_zero,List.getElem_cons_succ];refine wpAnyH_take (i:=7) (v:=undef) rfl (by kernel_rfl) (by kernel_rfl) (by kernel_rfl) (fun _ _ _ h=>h) (Or.inr ⟨by rfl,rfl⟩) (by assumption) ?_;simp only [Act.put,List.setIfInBounds_toArray,List.set_cons_zero,List.set_cons_succ,List.getElem_toArray,List.getElem_cons_zero,List.getElem_cons_succ];refine wpAnyH_take (i:=8) (v:=undef) rfl (by kernel_rfl) (by kernel_rfl) (by kernel_rfl) (fun _ _ _ h=>h) (Or.inr ⟨by rfl,rfl⟩) (by assumption) ?_;simp only [Act.put,List.setIfInBounds_toArray,List.set_cons_zero,List.set_cons_succ,List.getElem_toArray,List.getElem_cons_zero,List.getElem_cons_succ];refine wpAnyH_take (i:=9) (v:=undef) rfl (by kernel_rfl) (by kernel_rfl) (by kernel_rfl) (fun _ _ _ h=>h) (Or.inr ⟨by rfl,rfl⟩) (by assumption) ?_;simp only [Act.put,List.setIfInBounds_toArray,List.set_cons_zero,List.set_cons_succ,List.getElem_toArray,List.getElem_cons_zero,List.getElem_cons_succ];refine wpAnyH_take (i:=10) (v:=undef) rfl (by kernel_rfl) (by kernel_rfl) (by kernel_rfl) (fun _ _ _ h=>h) (Or.inr ⟨by rfl,rfl⟩) (by assumption) ?_;simp only [Act.put,List.setIfInBounds_toArray,List.set_cons_zero,List.set_cons_succ,List.getElem_toArray,List.getElem_cons_zero,List.getElem_cons_succ];refine wpAnyH_take (i:=11) (v:=undef) rfl (by kernel_rfl) (by kernel_rfl) (by kernel_rfl) (fun _ _ _ h=>h) (Or.inr ⟨by rfl,rfl⟩) (by assumption) ?_;simp only [Act.put,List.setIfInBounds_toArray,List.set_cons_zero,List.set_cons_succ,List.getElem_toArray,List.getElem_cons_zero,List.getElem_cons_succ]
   refine wpAnyH_take (i:=12) (v:=undef) rfl (by kernel_rfl) (by kernel_rfl) (by kernel_rfl) (fun _ _ _ h=>h) (Or.inr ⟨by rfl,rfl⟩) (by assumption) ?_;simp only [Act.put,List.setIfInBounds_toArray,List.set_cons_zero,List.set_cons_succ,List.getElem_toArray,List.getElem_cons_zero,List.getElem_cons_succ];refine wpAnyH_take (i:=13) (v:=undef) rfl (by kernel_rfl) (by kernel_rfl) (by kernel_rfl) (fun _ _ _ h=>h) (Or.inr ⟨by rfl,rfl⟩) (by assumption) ?_;simp only [Act.put,List.setIfInBounds_toArray,List.set_cons_zero,List.set_cons_succ,List.getElem_toArray,List.getElem_cons_zero,List.getElem_cons_succ];refine wpAnyH_take (i:=14) (v:=undef) rfl (by kernel_rfl) (by kernel_rfl) (by kernel_rfl) (fun _ _ _ h=>h) (Or.inr ⟨by rfl,rfl⟩) (by assumption) ?_;simp only [Act.put,List.setIfInBounds_toArray,List.set_cons_zero,List.set_cons_succ,List.getElem_toArray,List.getElem_cons_zero,List.getElem_cons_succ];refine wpAnyH_take (i:=15) (v:=undef) rfl (by kernel_rfl) (by kernel_rfl) (by kernel_rfl) (fun _ _ _ h=>h) (Or.inr ⟨by rfl,rfl⟩) (by assumption) ?_;simp only [Act.put,List.setIfInBounds_toArray,List.set_cons_zero,List.set_cons_succ,List.getElem_toArray,List.getElem_cons_zero,List.getElem_cons_succ];refine wpAnyH_take (i:=16) (v:=undef) rfl (by kernel_rfl) (by kernel_rfl) (by kernel_rfl) (fun _ _ _ h=>h) (Or.inr ⟨by rfl,rfl⟩) (by assumption) ?_;simp only [Act.put,List.setIfInBounds_toArray,List.set_cons_zero,List.set_cons_succ,List.getElem_toArray,List.getElem_cons_zero,List.getElem_cons_succ]
   refine wpAnyH_take (i:=17) (v:= ?_) rfl (by kernel_rfl) (by kernel_rfl) (by kernel_rfl) (fun _ _ _ h=>h) (Or.inl ⟨by rfl,?_⟩) (by assumption) ?_
   rotate_left
   ·(intro w hSw;(try dsimp only at hSw);go_simp)<;>with_reducible rfl
   simp only [Act.put,List.setIfInBounds_toArray,List.set_cons_zero,List.set_cons_succ,List.getElem_toArray,List.getElem_cons_zero,List.getElem_cons_succ];refine wpAnyH_done (by kernel_rfl) ?_ _
   all_goals
    go_wp2_with fail
   all_goals
    go_ret
    refine ⟨au ?_,FF.out⟩;simp only [jV,zo,zw,zx,zu,zq]
    simp_all
theorem aci (e:En)(nt nc nr nv:Int)(w:World)(h1: -4611686018427387904≤nt)(h2:nt≤4611686018427387904)(h3: -4611686018427387904≤nc)(h4:nc≤4611686018427387904)(h5: -4611686018427387904≤nr)(h6:nr≤4611686018427387904)(h7: -4611686018427387904≤nv)(h8:nv≤4611686018427387904):
  Calls Tryz.prog 170 #[e.v,.int .i64 nt,.int .i64 nc,.int .i64 nr,.int .i64 nv] w fun r w' =>r= .returned (.bool (sK e nt nc nr nv))∧Fr No w w' :=by
 have HP:=fun W=>aaf e nt nc nr W h1 h2 h3 h4 h5 h6;have HN:=fun W=>xO e nv W h7 h8;unfold sK;revert HP HN;generalize jV e nt nc nr=p;generalize mQ e nv=q;intro hp hn;clear h1 h2 h3 h4 h5 h6 h7 h8;obtain ⟨HP,HN⟩:=aO hp hn;clear hp hn;obtain ⟨k,tick,te,ce,ot,ep,fr,un,n⟩:=e;unfold En.v at*;obtain ⟨FF,BB⟩:=aO (aj w (.cells #[.int .i64 k,.int .i64 tick,.int .i64 te,.int .i64 ce,.int .i64 ot,.int .i64 ep,.int .i64 fr,.int .i64 un,.int .i64 n] dR)) (Blk.new w dR #[.int .i64 k,.int .i64 tick,.int .i64 te,.int .i64 ce,.int .i64 ot,.int .i64 ep,.int .i64 fr,.int .i64 un,.int .i64 n]);obtain ⟨c0,c1,c2,c3,c4,c5,c6,c7,c8⟩:=aB BB.out;obtain ⟨b1,hb1⟩:∃b,inB 1 16 k=b:=⟨_,rfl⟩;obtain ⟨b2,hb2⟩:∃b,inB 0 1073741824 tick=b:=⟨_,rfl⟩;simp only [];rw [hb1,hb2]
 cases b1<;>cases b2<;>cases p
 all_goals
  go_in
  go_wp2_with (first
   |(go_at_call 180;refine (lY _ _ _ _).mono ?_;rintro e w5 ⟨rfl,rfl⟩)
   |(go_at_call 181;refine (HP.out _).mono ?_;rintro e w5 ⟨rfl,f5⟩;replace FF:=O (FF.out.ah f5);replace BB:=O (BB.out.fr f5 id);clear f5 c0 c1 c2 c3 c4 c5 c6 c7 c8;obtain ⟨c0,c1,c2,c3,c4,c5,c6,c7,c8⟩:=aB BB.out)
   |(go_at_call 182;refine (HN.out _).mono ?_;rintro e w5 ⟨rfl,f5⟩;replace FF:=O (FF.out.ah f5);clear f5))
  all_goals
   go_ret
   exact ⟨au rfl,FF.out⟩
theorem nI (e:En)(w:World):
  Calls Tryz.prog 146 #[e.v] w fun r w' =>r= .returned (.bool (dW e))∧Fr No w w' :=by
 have HR:=fun W=>aci e 32 16 4 30 W dcd dcd dcd dcd dcd dcd dcd dcd;unfold dW;rw [agj];revert HR;generalize sK e 32 16 4 30=q;intro hr;have HR:=O hr;clear hr;obtain ⟨k,tick,te,ce,ot,ep,fr,un,n⟩:=e;unfold En.v at*;obtain ⟨FF,BB⟩:=aO (aj w (.cells #[.int .i64 k,.int .i64 tick,.int .i64 te,.int .i64 ce,.int .i64 ot,.int .i64 ep,.int .i64 fr,.int .i64 un,.int .i64 n] dR)) (Blk.new w dR #[.int .i64 k,.int .i64 tick,.int .i64 te,.int .i64 ce,.int .i64 ot,.int .i64 ep,.int .i64 fr,.int .i64 un,.int .i64 n]);obtain ⟨c0,c1,c2,c3,c4,c5,c6,c7,c8⟩:=aB BB.out
 go_in
 go_wp2_with fail
 refine (HR.out _).mono ?_;rintro e w5 ⟨rfl,f5⟩;replace FF:=O (FF.out.ah f5);clear f5
 go_wp2_with fail
 go_ret
 exact ⟨au rfl,FF.out⟩
end Go.Proofs.YtjnfmfmglehmbaaGreat
