/-
  Copies of rows: slices.Clone of changes, items, leases, windows.
-/
import Derived.Test.YtodkhcbjpodgeaaGreatG09
import Derived.Lib.SliceRun
namespace Go.Proofs.YtodkhcbjpodgeaaGreat
open Go.ChangeShapes Go.WideShapes Go.ChangeAt Go.RowKit
set_option linter.unusedVariables false
set_option maxRecDepth 100000
set_option maxHeartbeats 4000000
def pJ (w:World)(T:TypeId)(size n:Nat)(xs:List Value)(e:Ending)(w' :World):Prop:=
 ∃A c,e= .returned (.slice A n c)∧aA w' (fun b=>w.heap.size≤b) T size (.slice A n c) n xs∧Fr No w w'
theorem iK:(Tryz.prog.info? TCh).map (fun i=>(i.zero,i.size,i.bytes))=some (some (.agg #[.int .i64 0,.int .i64 0,.int .i64 0,.int .i64 0,.int .i64 0,.int .i64 0,.string ⟨#[]⟩,.string ⟨#[]⟩]),8,80):=by kernel_rfl
theorem sV (w:World)(A:Option Addr)(n c:Nat)(xs:List Value)(hA:A=none→n=0)(hr:Rd w w.heap.size A xs)(hn:xs.length=n*8)(h1:∀u∈xs,u.oneCell' =true)(hl:n≤1000000):Calls Tryz.prog 46 #[.slice A n c] w (pJ w TCh 8 n xs):=by
 obtain ⟨i1,hi1,hz0,hz1,hz2⟩:=info_parts iK;have hnil:∀(W:World) (a:Option Addr) (n c n' c' :Nat),(binOp .eql 41 (.slice a n c) (.slice none n' c')).run Tryz.prog W= .ok (.bool a.isNone) W:=fun W a n c n' c' =>Lib.run_eql_slice_nil W _ TCh a n c n' c' rfl
 rcases A with _|A
 ·obtain rfl:n=0:=hA rfl
  obtain rfl:xs=[]:=List.eq_nil_of_length_eq_zero (by simpa using hn);clear hA hr hn h1
  go_in
  go_wp2_with fail
  go_ret
  exact ⟨none,0,rfl,aA.nil _ _ _ _,Fr.refl _ _⟩
 ·have hown:aA (w.alloc (.cells #[] TCh)) (fun i=>w.heap.size≤i) TCh 8 (.slice (some ⟨w.heap.size,0,none⟩) 0 0) 0 []:=⟨World.ownsRow_made w #[] 0 (Nat.zero_le _) (Nat.zero_le _) rfl,fun g hg=>by simp [Value.ownBlock] at hg;omega⟩
  have hr2:=hr.au (aj w (.cells #[] TCh)) (Nat.le_refl _);clear hA hr;obtain ⟨HR2,H1,HN,HOWN⟩:=fV hr2 h1 hn hown;clear hr2 h1 hn hown
  go_in
  go_wp2_with (at_builtin;refine aB _ rfl (.tmp 5) (.tmp 6) _ rfl 0 TCh i1 _ 8 80 Tryz.underlying41 hi1 hz0 hz1 hz2 rfl dcd (.slice (some ⟨w.heap.size,0,none⟩) 0 0) 0 [] rfl HOWN.out.1 w.heap.size (some A) n c xs rfl (fun h=>by cases h) HR2.out HN.out H1.out mxl oy (Nat.zero_le _) ?_)
  intro v1 w2 happ;obtain ⟨A4,c4,rfl,n4⟩:=ay happ.1;clear n4;obtain ⟨o1,f1⟩:=HOWN.out.appended happ
  go_wp2_with fail
  go_ret
  rw [Nat.zero_add] at o1 ⊢;exact ⟨A4,c4,rfl,o1.mono fun b hb=>(by rcases hb with hb|hb;exact hb;simp at hb;omega),(aj w _).aD f1 fun i hi=>hi⟩
theorem mZ:(Tryz.prog.info? TIt).map (fun i=>(i.zero,i.size,i.bytes))=some (some (.agg #[.int .i64 0,.string ⟨#[]⟩]),2,24):=by kernel_rfl
theorem acs (w:World)(A:Option Addr)(n c:Nat)(xs:List Value)(hA:A=none→n=0)(hr:Rd w w.heap.size A xs)(hn:xs.length=n*2)(h1:∀u∈xs,u.oneCell' =true)(hl:n≤1000000):Calls Tryz.prog 163 #[.slice A n c] w (pJ w TIt 2 n xs):=by
 obtain ⟨i1,hi1,hz0,hz1,hz2⟩:=info_parts mZ;have hnil:∀(W:World) (a:Option Addr) (n c n' c' :Nat),(binOp .eql 197 (.slice a n c) (.slice none n' c')).run Tryz.prog W= .ok (.bool a.isNone) W:=fun W a n c n' c' =>Lib.run_eql_slice_nil W _ TIt a n c n' c' rfl
 rcases A with _|A
 ·obtain rfl:n=0:=hA rfl
  obtain rfl:xs=[]:=List.eq_nil_of_length_eq_zero (by simpa using hn);clear hA hr hn h1
  go_in
  go_wp2_with fail
  go_ret
  exact ⟨none,0,rfl,aA.nil _ _ _ _,Fr.refl _ _⟩
 ·have hown:aA (w.alloc (.cells #[] TIt)) (fun i=>w.heap.size≤i) TIt 2 (.slice (some ⟨w.heap.size,0,none⟩) 0 0) 0 []:=⟨World.ownsRow_made w #[] 0 (Nat.zero_le _) (Nat.zero_le _) rfl,fun g hg=>by simp [Value.ownBlock] at hg;omega⟩
  have hr2:=hr.au (aj w (.cells #[] TIt)) (Nat.le_refl _);clear hA hr;obtain ⟨HR2,H1,HN,HOWN⟩:=fV hr2 h1 hn hown;clear hr2 h1 hn hown
  go_in
  go_wp2_with (at_builtin;refine aB _ rfl (.tmp 5) (.tmp 6) _ rfl 0 TIt i1 _ 2 24 Tryz.underlying197 hi1 hz0 hz1 hz2 rfl dcd (.slice (some ⟨w.heap.size,0,none⟩) 0 0) 0 [] rfl HOWN.out.1 w.heap.size (some A) n c xs rfl (fun h=>by cases h) HR2.out HN.out H1.out mxl oy (Nat.zero_le _) ?_)
  intro v1 w2 happ;obtain ⟨A4,c4,rfl,n4⟩:=ay happ.1;clear n4;obtain ⟨o1,f1⟩:=HOWN.out.appended happ
  go_wp2_with fail
  go_ret
  rw [Nat.zero_add] at o1 ⊢;exact ⟨A4,c4,rfl,o1.mono fun b hb=>(by rcases hb with hb|hb;exact hb;simp at hb;omega),(aj w _).aD f1 fun i hi=>hi⟩
theorem yP:(Tryz.prog.info? TLe).map (fun i=>(i.zero,i.size,i.bytes))=some (some (.agg #[.int .i64 0,.int .i64 0,.int .i64 0,.int .i64 0]),4,32):=by kernel_rfl
theorem af8 (w:World)(A:Option Addr)(n c:Nat)(xs:List Value)(hA:A=none→n=0)(hr:Rd w w.heap.size A xs)(hn:xs.length=n*4)(h1:∀u∈xs,u.oneCell' =true)(hl:n≤1000000):Calls Tryz.prog 170 #[.slice A n c] w (pJ w TLe 4 n xs):=by
 obtain ⟨i1,hi1,hz0,hz1,hz2⟩:=info_parts yP;have hnil:∀(W:World) (a:Option Addr) (n c n' c' :Nat),(binOp .eql 198 (.slice a n c) (.slice none n' c')).run Tryz.prog W= .ok (.bool a.isNone) W:=fun W a n c n' c' =>Lib.run_eql_slice_nil W _ TLe a n c n' c' rfl
 rcases A with _|A
 ·obtain rfl:n=0:=hA rfl
  obtain rfl:xs=[]:=List.eq_nil_of_length_eq_zero (by simpa using hn);clear hA hr hn h1
  go_in
  go_wp2_with fail
  go_ret
  exact ⟨none,0,rfl,aA.nil _ _ _ _,Fr.refl _ _⟩
 ·have hown:aA (w.alloc (.cells #[] TLe)) (fun i=>w.heap.size≤i) TLe 4 (.slice (some ⟨w.heap.size,0,none⟩) 0 0) 0 []:=⟨World.ownsRow_made w #[] 0 (Nat.zero_le _) (Nat.zero_le _) rfl,fun g hg=>by simp [Value.ownBlock] at hg;omega⟩
  have hr2:=hr.au (aj w (.cells #[] TLe)) (Nat.le_refl _);clear hA hr;obtain ⟨HR2,H1,HN,HOWN⟩:=fV hr2 h1 hn hown;clear hr2 h1 hn hown
  go_in
  go_wp2_with (at_builtin;refine aB _ rfl (.tmp 5) (.tmp 6) _ rfl 0 TLe i1 _ 4 32 Tryz.underlying198 hi1 hz0 hz1 hz2 rfl dcd (.slice (some ⟨w.heap.size,0,none⟩) 0 0) 0 [] rfl HOWN.out.1 w.heap.size (some A) n c xs rfl (fun h=>by cases h) HR2.out HN.out H1.out mxl oy (Nat.zero_le _) ?_)
  intro v1 w2 happ;obtain ⟨A4,c4,rfl,n4⟩:=ay happ.1;clear n4;obtain ⟨o1,f1⟩:=HOWN.out.appended happ
  go_wp2_with fail
  go_ret
  rw [Nat.zero_add] at o1 ⊢;exact ⟨A4,c4,rfl,o1.mono fun b hb=>(by rcases hb with hb|hb;exact hb;simp at hb;omega),(aj w _).aD f1 fun i hi=>hi⟩
theorem uN:(Tryz.prog.info? nK).map (fun i=>(i.zero,i.size,i.bytes))=some (some (.agg #[.int .i64 0,.int .i64 0,.int .i64 0,.int .i64 0,.int .i64 0]),5,40):=by kernel_rfl
def yQ (p:It→Bool)(l:List It):Int:=if l.any p then ((l.findIdx p:Nat):Int) else -1
theorem abn {p:It→Bool}{l:List It}{k:Nat}{x:It}(hx:l[k]? =some x)(hno:∀j y,j<k→l[j]? =some y→p y=false)(hp:p x=true):yQ p l=(k:Int):=by
 have hk:=(List.getElem?_eq_some_iff.1 hx).1;have hgx:=(List.getElem?_eq_some_iff.1 hx).2;unfold yQ;rw [if_pos (List.any_eq_true.2 ⟨x,List.mem_of_getElem? hx,hp⟩)]
 congr 1
 rw [List.findIdx_eq hk];exact ⟨by rw [hgx];exact hp,fun j hj=>hno j _ hj (List.getElem?_eq_getElem oy)⟩
theorem abm {p:It→Bool}{l:List It}(hno:∀j y,j<l.length→l[j]? =some y→p y=false):yQ p l= -1:=by
 unfold yQ;rw [if_neg];intro h;obtain ⟨x,hx,hp⟩:=List.any_eq_true.1 h;obtain ⟨j,hj⟩:=List.getElem?_of_mem hx;rw [hno j x (List.getElem?_eq_some_iff.1 hj).1 hj] at hp
 cases hp
theorem ap7 {w:World}(x:It)(g:Nat)(n:Int)(h:w.cell? ⟨g,5,none⟩=some (.int .i64 n))(hg:g<w.heap.size):
  Calls Tryz.prog 165 #[.agg #[.int .i64 x.nm,.string x.vl],.pointer (some ⟨g,0,none⟩)] w fun e w' =>e= .returned (.bool (x.nm == n))∧Fr No w w' :=by
 have hne:g≠w.heap.size:=by omega
 go_in
 go_wp2
 go_ret
 exact ⟨aS rfl,aj _ _⟩
set_option maxHeartbeats 2000000 in
theorem amd {w:World}{A:Option Addr}{c:Nat}{l:List It}(hA:A=none→l.length=0)(hr:Rd w w.heap.size A (itV l))(hlc:l.length≤c)(hcm:c≤maxLen)(g:Nat)(n:Int)(h:w.cell? ⟨g,5,none⟩=some (.int .i64 n))(hg:g<w.heap.size):
  Calls Tryz.prog 164 #[.slice A l.length c,.func (.func 165) #[] #[.pointer (some ⟨g,0,none⟩)]] w fun e w' =>e= .returned (.int .i64 (yQ (fun t=>t.nm == n) l))∧Fr No w w' :=by
 have hat:=fun i (hi:i<l.length)=>hr.amc hi;have hp:=fun V (hV:Fr No w V) (x:It)=>ap7 (w:=V) x g n ((hV.cell (p:=⟨g,5,none⟩) hg id).trans h) (nll hg hV.size);unfold maxLen at hcm;clear hr h hg;obtain ⟨HAT,HA,HP⟩:=bC hat hA hp;clear hat hA hp
 go_in
 go_wp2_with fail
 go_loopw [8] (fun i wr=>∃k:Nat,k≤l.length∧i= .int .i64 k∧(∀j x,j<k→l[j]? =some x→(x.nm == n)=false)∧Fr No w wr) (fun i _=>l.length-(intOf i).toNat)
 case atStart=>exact ⟨0,Nat.zero_le _,rfl,fun j x hj=>by omega,Fr.refl _ _⟩
 case round=>
  obtain ⟨k,hk,rfl,hno,hf⟩:=hrel;obtain ⟨hF,HNO⟩:=aN hf hno;clear hf hno
  by_cases hlt:k<l.length
  ·obtain ⟨b,off,x,rfl,hx,hcl⟩:=HAT.out k hlt
   obtain ⟨x0,x1⟩:=hcl wr hF.out;have hpx:=HP.out wr hF.out x;have HX:=O hx;obtain ⟨q,hq⟩:∃q,q=(x.nm == n):=⟨_,rfl⟩;rw [←hq] at hpx;have HQ:=O hq;obtain ⟨xn,xv⟩:=x;simp only at x0 x1 hpx;have HPX:=O hpx;clear hcl hpx hx hq
   go_wp2_with fail
   refine HPX.out.mono ?_;rintro e w5 ⟨rfl,f5⟩;have F5:=O (hF.out.ah f5);clear f5 x0 x1 hF
   rcases q with _|_
   ·go_wp2_with fail
    go_roundw
    case rel=>exact ⟨k+1,by omega,by go_num,fun j y hj hy=>(by
     rcases Nat.lt_or_ge j k with h|h
     ·exact HNO.out j y h hy
     ·have:j=k:=by omega
      subst this;rw [HX.out] at hy
      cases hy
      exact HQ.out.symm),F5.out⟩
    case measure=>simp [intOf];omega
   ·have HI:=O (abn (p:=fun t=>t.nm == n) HX.out HNO.out HQ.out.symm)
    go_wp2_with fail
    go_ret
    rw [HI.out];exact ⟨rfl,F5.out⟩
  ·have HI:=O (abm (p:=fun t=>t.nm == n) (l:=l) (fun j y hj hy=>HNO.out j y oy hy))
   go_wp2_with fail
   go_ret
   rw [HI.out];exact ⟨rfl,hF.out⟩
theorem ap8 {w:World}(x:It)(g:Nat)(n:Int)(h:w.cell? ⟨g,4,none⟩=some (.int .i64 n))(hg:g<w.heap.size):
  Calls Tryz.prog 120 #[.agg #[.int .i64 x.nm,.string x.vl],.pointer (some ⟨g,0,none⟩)] w fun e w' =>e= .returned (.bool (x.nm == n))∧Fr No w w' :=by
 have hne:g≠w.heap.size:=by omega
 go_in
 go_wp2
 go_ret
 exact ⟨aS rfl,aj _ _⟩
set_option maxHeartbeats 2000000 in
theorem ame {w:World}{A:Option Addr}{c:Nat}{l:List It}(hA:A=none→l.length=0)(hr:Rd w w.heap.size A (itV l))(hlc:l.length≤c)(hcm:c≤maxLen)(g:Nat)(n:Int)(h:w.cell? ⟨g,4,none⟩=some (.int .i64 n))(hg:g<w.heap.size):
  Calls Tryz.prog 164 #[.slice A l.length c,.func (.func 120) #[] #[.pointer (some ⟨g,0,none⟩)]] w fun e w' =>e= .returned (.int .i64 (yQ (fun t=>t.nm == n) l))∧Fr No w w' :=by
 have hat:=fun i (hi:i<l.length)=>hr.amc hi;have hp:=fun V (hV:Fr No w V) (x:It)=>ap8 (w:=V) x g n ((hV.cell (p:=⟨g,4,none⟩) hg id).trans h) (nll hg hV.size);unfold maxLen at hcm;clear hr h hg;obtain ⟨HAT,HA,HP⟩:=bC hat hA hp;clear hat hA hp
 go_in
 go_wp2_with fail
 go_loopw [8] (fun i wr=>∃k:Nat,k≤l.length∧i= .int .i64 k∧(∀j x,j<k→l[j]? =some x→(x.nm == n)=false)∧Fr No w wr) (fun i _=>l.length-(intOf i).toNat)
 case atStart=>exact ⟨0,Nat.zero_le _,rfl,fun j x hj=>by omega,Fr.refl _ _⟩
 case round=>
  obtain ⟨k,hk,rfl,hno,hf⟩:=hrel;obtain ⟨hF,HNO⟩:=aN hf hno;clear hf hno
  by_cases hlt:k<l.length
  ·obtain ⟨b,off,x,rfl,hx,hcl⟩:=HAT.out k hlt
   obtain ⟨x0,x1⟩:=hcl wr hF.out;have hpx:=HP.out wr hF.out x;have HX:=O hx;obtain ⟨q,hq⟩:∃q,q=(x.nm == n):=⟨_,rfl⟩;rw [←hq] at hpx;have HQ:=O hq;obtain ⟨xn,xv⟩:=x;simp only at x0 x1 hpx;have HPX:=O hpx;clear hcl hpx hx hq
   go_wp2_with fail
   refine HPX.out.mono ?_;rintro e w5 ⟨rfl,f5⟩;have F5:=O (hF.out.ah f5);clear f5 x0 x1 hF
   rcases q with _|_
   ·go_wp2_with fail
    go_roundw
    case rel=>exact ⟨k+1,by omega,by go_num,fun j y hj hy=>(by
     rcases Nat.lt_or_ge j k with h|h
     ·exact HNO.out j y h hy
     ·have:j=k:=by omega
      subst this;rw [HX.out] at hy
      cases hy
      exact HQ.out.symm),F5.out⟩
    case measure=>simp [intOf];omega
   ·have HI:=O (abn (p:=fun t=>t.nm == n) HX.out HNO.out HQ.out.symm)
    go_wp2_with fail
    go_ret
    rw [HI.out];exact ⟨rfl,F5.out⟩
  ·have HI:=O (abm (p:=fun t=>t.nm == n) (l:=l) (fun j y hj hy=>HNO.out j y oy hy))
   go_wp2_with fail
   go_ret
   rw [HI.out];exact ⟨rfl,hF.out⟩
theorem anj {w:World}{F:Nat→Prop}{A:Option Addr}{c n:Nat}{xs:List Value}(h:aA w F TIt 2 (.slice A n c) n xs)(abq:∀u∈xs,u.oneCell' =true){i r:Nat}(hn:n=i+1+r):
  Calls Tryz.prog 166 #[.slice A n c,.int .i64 (i:Int),.int .i64 ((i+1:Nat):Int)] w fun e w' =>e= .returned (.slice A (i+r) c)∧aA w' F TIt 2 (.slice A (i+r) c) (i+r) (xs.take (i*2)++xs.drop ((i+1)*2))∧Fr F w w' :=by
 obtain ⟨i0,hi0,hz0,hz1,hz2⟩:=info_parts mZ;have hxl:xs.length=n*2:=h.1.1
 rcases h.1.2 with ⟨-,h0⟩|⟨g,cap,cur,hv,hb,hgg,hnc,hcm,hcs,htk⟩
 ·omega
 injection hv with e1 e2 e3;subst e1 e3;have hFg:F g:=h.2 g rfl;have ht:Tryz.prog.underlying 197=some (.slice TIt):=by kernel_rfl
 have hblk:Blk w g TIt cur:=hgg;have hcur:∀k,k<n*2→cur[k]? =xs[k]? :=fun k hk=>by rw [←htk,List.getElem?_take,if_pos hk,Array.getElem?_toList]
 obtain ⟨news,hnews⟩:∃news,news=xs.drop ((i+1)*2):=⟨_,rfl⟩;have hnl:news.length=r*2:=by rw [hnews,List.length_drop];omega
 obtain ⟨ad,hs2,had⟩:=jU 197 TIt ht i0 hi0 g n c (i+1) oy;have hs1:=rD 197 TIt ht i0 hi0 g n c i oy;have hs3:=wm 197 TIt ht i0 hi0 g (i+r) c oy;rw [hz1] at had hs3;rw [show n-(i+1)=r from by omega] at hs2;have hsrc:∀j u,news[j]? =some u→w.drew.cell? (ad.add j)=some u:=by
  intro j u hu;have hj:=(List.getElem?_eq_some_iff.1 hu).1;rw [had oy];have ea:(⟨g,(i+1)*2,none⟩:Addr).add j=⟨g,(i+1)*2+j,none⟩:=by unfold Addr.add;split<;>simp_all
  rw [ea]
  show w.cell? _=_
  rw [hblk.cell,hcur _ oy];rw [hnews,List.getElem?_drop] at hu;exact hu
 have hone:∀u∈news,u.oneCell' =true:=fun u hu=>abq u (by rw [hnews] at hu;exact List.mem_of_mem_drop hu);have hsp:∀j,j<news.length→(w.drew.cell? ⟨g,0+i*2+j,none⟩).isSome=true∧w.drew.frozen? ⟨g,0+i*2+j,none⟩=false:=by
  intro j hj;refine ⟨?_,hblk.frozen _⟩
  show (w.cell? _).isSome=true
  rw [hblk.cell,Array.getElem?_eq_getElem oy]
  rfl
 obtain ⟨W1,hW1⟩:∃W1,W1=w.drew.setCells g (0+i*2) news:=⟨_,rfl⟩;have hb1:Blk W1 g TIt (aar cur (i*2) news):=by
  rw [hW1,Nat.zero_add];exact Blk.setCells (w:=w) news (i*2) (show Blk w.drew g TIt cur from hblk)
 have hf1:Fr F w W1:=by rw [hW1];exact Fr.setCells (.inl hFg) news _ (Fr.refl F w).drew
 have hs:(aar cur (i*2) news).size=cur.size:=iC _ _ _;obtain ⟨zc,hzc⟩:∃zc:List Value,zc=(Value.cells (.agg #[.int .i64 0,.string ⟨#[]⟩])).toList:=⟨_,rfl⟩;have hzl:zc.length=2:=by rw [hzc];rfl
 have hcl:∀ty,(Builtin.clear_ #[197] ty #[.slice (some ⟨g,(i+r)*2,none⟩) 1 (c-(i+r))]).run Tryz.prog W1= .ok (.tuple #[]) (W1.setCells g ((i+r)*2) zc):=by
  intro ty;rw [hzc];refine jV W1 _ TIt ty _ ht (fun w=>by simp [zeroValue,typeInfo,hi0,hz0]) dcd (by intro v hv;simp [Value.cells] at hv;rcases hv with rfl|rfl<;>rfl) g _ _ (fun j hj=> ?_) (fun j hj=>hb1.frozen _);have hj:j<2:=hj;rw [hb1.cell,Array.getElem?_eq_getElem oy]
  rfl
 have hfin:aA (W1.setCells g ((i+r)*2) zc) F TIt 2 (.slice (some ⟨g,0,none⟩) (i+r) c) (i+r) (xs.take (i*2)++xs.drop ((i+1)*2))∧Fr F w (W1.setCells g ((i+r)*2) zc):=by
  have hb2:=Blk.setCells (w:=w) zc ((i+r)*2) hb1;refine ⟨⟨⟨by rw [List.length_append,List.length_take,List.length_drop];omega,.inr ⟨g,c,_,rfl,Nat.zero_le _,hb2,by omega,hcm,by rw [iC,hs,hcs],?_⟩⟩,fun g' hg' =>h.2 g' hg'⟩,Fr.setCells (.inl hFg) zc _ hf1⟩;have h1:cur.toList.take (i*2)=xs.take (i*2):=by rw [←htk,List.take_take];congr 1;omega
  have hll:(cur.toList.take (i*2)++news).length=(i+r)*2:=by rw [List.length_append,List.length_take,hnl,Array.length_toList];omega
  rw [iD zc _ _ (by rw [hs,hzl];omega),iD news cur _ oy,List.append_assoc (List.take _ _),List.take_append_of_le_length (by rw [List.length_take,List.length_append,hll];omega),List.take_take,Nat.min_self,List.take_append_of_le_length oy,List.take_of_length_le oy,h1,hnews]
 obtain ⟨eu,HW1,S1,S2,S3,S4⟩:=oK hfin hW1 hsrc hone hsp hnl;clear hfin hW1 hsrc hone hsp hnl hb1 hf1 hs hzl hblk hcur hnews hgg htk hcs had h abq hxl hb;have hij:(i:Int)+1≤(n:Int):=by omega
 have awi:(n:Int)≤(c:Int):=by omega
 subst hn;have HZC:=O hzc;clear hzc;rw [show ((i+1:Nat):Int)=(i:Int)+1 from by omega] at hs2;rw [show ((i+r+1:Nat):Int)=(i:Int)+1+(r:Int) from by omega] at hs3;rw [show ((i+r:Nat):Int)=(i:Int)+(r:Int) from by omega] at hs3
 go_in
 go_wp2_with fail
 go_region_law (refine step_append_room rfl (.tmp 22) (.tmp 25) 197 rfl TIt i0 2 ht hi0 hz1 g 0 i c (by simp [Act.eval,Act.put]) ad r (c-(i+1)) news (by simp [Act.eval,Act.put]) S4.out S1.out S2.out oy S3.out ?_;rw [←HW1.out])
 go_wp2_with fail
 go_ret
 exact ⟨rfl,eu.out.1,eu.out.2⟩
theorem zI (z:Array Value)(m:Nat):(Builtin.zeroCells z m).toList.length=m*z.size:=by simp [Builtin.zeroCells]
theorem ak3 (z:Array Value)(m:Nat)(hp:0<z.size)(h1:∀v∈z.toList,v.oneCell' =true):∀v∈(Builtin.zeroCells z m).toList,v.oneCell' =true:=by
 intro v hv;simp only [Builtin.zeroCells,Array.toList_map,List.mem_map] at hv;obtain ⟨i,_,rfl⟩:=hv;have hi:i % z.size<z.size:=Nat.mod_lt _ hp;rw [getElem!_pos z (i % z.size) hi];exact h1 _ (Array.getElem_mem_toList hi)
theorem jy {P:Program}(w:World)(t e ty:TypeId)(z:Value)(ht:P.underlying t=some (.slice e))(hv:∀w,(zeroValue e).run P w= .ok z w)(hp:0<z.cells.size)(h1:∀v∈z.cells.toList,v.oneCell' =true)(b o m c:Nat)(hm:0<m)
  (hc:∀j,j<m*z.cells.size→(w.cell? ⟨b,o+j,none⟩).isSome=true) (hf:∀j,j<m*z.cells.size→w.frozen? ⟨b,o+j,none⟩=false):
  (Builtin.clear_ #[t] ty #[.slice (some ⟨b,o,none⟩) m c]).run P w= .ok (.tuple #[]) (w.setCells b o (Builtin.zeroCells z.cells m).toList):=by
 have hl:=zI z.cells m;have hst:=run_storeCells_cells (P:=P) b o (Builtin.zeroCells z.cells m).toList 0 w (by rw [hl];simpa using hc) (by rw [hl];simpa using hf) (ak3 _ _ hp h1);simp only [Nat.add_zero] at hst;obtain ⟨k,rfl⟩:∃k,m=k+1:=⟨m-1,by omega⟩
 simp [Builtin.clear_,run_underlying ht,hv,hst]
theorem alr {L:List Value}{R:List Le}{n i:Nat}(hRl:R.length=n)(hi:i<n)(x:Le)(htk:L.take (n*4)=leV R):(L.take (i*4)++x.cells++L.drop (i*4+4)).take (n*4)=leV (R.set i x):=by
 have hll:n*4≤L.length:=by have:=congrArg List.length htk;rw [kM,List.length_take] at this;omega
 have e1:L.take (i*4)=leV (R.take i):=by
  rw [←wW,←htk,List.take_take,Nat.min_eq_left oy]
 have e2:(L.drop (i*4+4)).take (n*4-(i*4+4))=leV (R.drop (i+1)):=by
  rw [←afb,←htk,List.drop_take,show (i+1)*4=i*4+4 from by omega]
 have hxl:x.cells.length=4:=rfl;have el:(leV (R.take i)++x.cells).length=i*4+4:=by rw [List.length_append,kM,hxl,List.length_take];omega
 rw [e1,List.take_append,el,List.take_of_length_le (by rw [el];omega),e2,List.set_eq_take_append_cons_drop,if_pos oy]
 simp [leV]
theorem aA.apo {w:World}{F:Nat→Prop}{g n c:Nat}{R:List Le}(h:aA w F TLe 4 (.slice (some ⟨g,0,none⟩) n c) n (leV R)){i:Nat}(hi:i<n)(x:Le):
  aA (World.setCell (World.setCell (World.setCell (World.setCell (w) ⟨g,i*4,none⟩ (.int .i64 x.it)) ⟨g,i*4+1,none⟩ (.int .i64 x.cl)) ⟨g,i*4+2,none⟩ (.int .i64 x.ep)) ⟨g,i*4+3,none⟩ (.int .i64 x.un)) F TLe 4 (.slice (some ⟨g,0,none⟩) n c) n (leV (R.set i x))∧Fr F w (World.setCell (World.setCell (World.setCell (World.setCell (w) ⟨g,i*4,none⟩ (.int .i64 x.it)) ⟨g,i*4+1,none⟩ (.int .i64 x.cl)) ⟨g,i*4+2,none⟩ (.int .i64 x.ep)) ⟨g,i*4+3,none⟩ (.int .i64 x.un)):=by
 have hRl:R.length=n:=by have:=h.1.1;rw [kM] at this;omega
 rcases h.1.2 with ⟨h0,_⟩|⟨g',cap,cur,hv,hb,hgg,hnc,hcm,hcs,htk⟩
 ·cases h0
 injection hv with e1 e2 e3;injection e1 with e1;injection e1 with e1;subst e1 e3;have hFg:F g:=h.2 g rfl;have hblk:Blk w g TLe cur:=hgg;have hch:w.setCells g (i*4) x.cells=World.setCell (World.setCell (World.setCell (World.setCell (w) ⟨g,i*4,none⟩ (.int .i64 x.it)) ⟨g,i*4+1,none⟩ (.int .i64 x.cl)) ⟨g,i*4+2,none⟩ (.int .i64 x.ep)) ⟨g,i*4+3,none⟩ (.int .i64 x.un):=by simp [World.setCells,Le.cells,Nat.add_assoc]
 have hb2:=Blk.setCells (w:=w) x.cells (i*4) hblk;have hf2:=Fr.setCells (.inl hFg) x.cells (i*4) (Fr.refl F w);rw [hch] at hb2 hf2;have hxl:x.cells.length=4:=rfl;refine ⟨⟨⟨by rw [kM,List.length_set];omega,.inr ⟨g,c,_,rfl,Nat.zero_le _,hb2,by omega,hcm,by rw [iC,hcs],?_⟩⟩,fun g' hg' =>h.2 g' hg'⟩,hf2⟩;have hsz:i*4+x.cells.length≤cur.size:=by rw [hcs,hxl];omega
 rw [iD _ _ _ hsz,hxl];exact alr hRl hi x htk
def zA {α:Type}(p:α→Bool)(l:List α):Int:=if l.any p then ((l.findIdx p:Nat):Int) else -1
theorem abp {α:Type}{p:α→Bool}{l:List α}{k:Nat}{x:α}(hx:l[k]? =some x)(hno:∀j y,j<k→l[j]? =some y→p y=false)(hp:p x=true):zA p l=(k:Int):=by
 have hk:=(List.getElem?_eq_some_iff.1 hx).1;have hgx:=(List.getElem?_eq_some_iff.1 hx).2;unfold zA;rw [if_pos (List.any_eq_true.2 ⟨x,List.mem_of_getElem? hx,hp⟩)]
 congr 1
 rw [List.findIdx_eq hk];exact ⟨by rw [hgx];exact hp,fun j hj=>hno j _ hj (List.getElem?_eq_getElem oy)⟩
theorem abo {α:Type}{p:α→Bool}{l:List α}(hno:∀j y,j<l.length→l[j]? =some y→p y=false):zA p l= -1:=by
 unfold zA;rw [if_neg];intro h;obtain ⟨x,hx,hp⟩:=List.any_eq_true.1 h;obtain ⟨j,hj⟩:=List.getElem?_of_mem hx;rw [hno j x (List.getElem?_eq_some_iff.1 hj).1 hj] at hp
 cases hp
theorem yR {α:Type}(p:α→Bool)(l:List α):(zA p l= -1∧l.filter (fun x=> !p x)=l)∨∃k,zA p l=(k:Nat)∧k<l.length∧(l.take (k+1)).filter (fun x=> !p x)=l.take k:=by
 by_cases h:l.any p=true
 ·right
  obtain ⟨x,hx,hpx⟩:=List.any_eq_true.1 h;have hlt:l.findIdx p<l.length:=List.findIdx_lt_length_of_exists ⟨x,hx,hpx⟩;refine ⟨l.findIdx p,by unfold zA;rw [if_pos h],hlt,?_⟩;rw [List.take_add_one,List.getElem?_eq_getElem hlt,List.filter_append];have h1:(l.take (l.findIdx p)).filter (fun x=> !p x)=l.take (l.findIdx p):=by
   rw [List.filter_eq_self];intro y hy;obtain ⟨j,hj⟩:=List.getElem?_of_mem hy;rw [List.getElem?_take] at hj
   split at hj
   ·rename_i hjk
    have:=List.not_of_lt_findIdx hjk;rw [List.getElem?_eq_getElem oy] at hj
    cases hj
    simpa using this
   ·cases hj
  rw [h1];have:=List.findIdx_getElem (w:=hlt)
  simp [this]
 ·left
  refine ⟨by unfold zA;rw [if_neg h],?_⟩;rw [List.filter_eq_self];intro y hy
  cases hp:p y with
  |false=>rfl
  |true=>exact absurd (List.any_eq_true.2 ⟨y,hy,hp⟩) h
theorem aA.ahq {w:World}{F:Nat→Prop}{e:TypeId}{size n c:Nat}{g:Nat}{xs:List Value}(h:aA w F e size (.slice (some ⟨g,0,none⟩) n c) n xs):∃cur,Blk w g e cur∧cur.size=c*size∧F g:=by
 rcases h.1.2 with ⟨h0,_⟩|⟨g',cap,cur,hv,hb,hgg,hnc,hcm,hcs,htk⟩
 ·cases h0
 injection hv with e1 e2 e3;injection e1 with e1;injection e1 with e1;subst e1 e3;exact ⟨cur,hgg,hcs,h.2 g rfl⟩
theorem anm {w:World}(x:Le)(g:Nat)(n:Int)(h:w.cell? ⟨g,5,none⟩=some (.int .i64 n))(hg:g<w.heap.size):
  Calls Tryz.prog 168 #[.agg #[.int .i64 x.it,.int .i64 x.cl,.int .i64 x.ep,.int .i64 x.un],.pointer (some ⟨g,0,none⟩)] w fun e w' =>e= .returned (.bool (x.it == n))∧Fr No w w' :=by
 have hne:g≠w.heap.size:=by omega
 go_in
 go_wp2
 go_ret
 exact ⟨aS rfl,aj _ _⟩
set_option maxHeartbeats 2000000 in
theorem amf {w:World}{A:Option Addr}{c:Nat}{l:List Le}(hA:A=none→l.length=0)(hr:Rd w w.heap.size A (leV l))(hlc:l.length≤c)(hcm:c≤maxLen)(q:Nat)(p:Le→Bool)
  (hp:∀V,Fr No w V→∀x:Le,Calls Tryz.prog 168 #[.agg #[.int .i64 x.it,.int .i64 x.cl,.int .i64 x.ep,.int .i64 x.un],.pointer (some ⟨q,0,none⟩)] V fun e w' =>e= .returned (.bool (p x))∧Fr No V w'):
  Calls Tryz.prog 227 #[.slice A l.length c,.func (.func 168) #[] #[.pointer (some ⟨q,0,none⟩)]] w fun e w' =>e= .returned (.int .i64 (zA p l))∧Fr No w w' :=by
 have hat:=fun i (hi:i<l.length)=>hr.afc hi;unfold maxLen at hcm;clear hr;obtain ⟨HAT,HA,HP⟩:=bC hat hA hp;clear hat hA hp
 go_in
 go_wp2_with fail
 go_loopw [8] (fun i wr=>∃k:Nat,k≤l.length∧i= .int .i64 k∧(∀j x,j<k→l[j]? =some x→p x=false)∧Fr No w wr) (fun i _=>l.length-(intOf i).toNat)
 case atStart=>exact ⟨0,Nat.zero_le _,rfl,fun j x hj=>by omega,Fr.refl _ _⟩
 case round=>
  obtain ⟨k,hk,rfl,hno,hf⟩:=hrel;obtain ⟨hF,HNO⟩:=aN hf hno;clear hf hno
  by_cases hlt:k<l.length
  ·obtain ⟨b,off,x,rfl,hx,hcl⟩:=HAT.out k hlt
   obtain ⟨x0,x1,x2,x3⟩:=hcl wr hF.out;have hpx:=HP.out wr hF.out x;have HX:=O hx;obtain ⟨z,hz⟩:∃z,z=p x:=⟨_,rfl⟩;rw [←hz] at hpx;have HZ:=O hz;obtain ⟨akk,ah1,ah0,agw⟩:=x;simp only at x0 x1 x2 x3 hpx;have HPX:=O hpx;clear hcl hpx hx hz
   go_wp2_with fail
   refine HPX.out.mono ?_;rintro e w5 ⟨rfl,f5⟩;have F5:=O (hF.out.ah f5);clear f5 x0 x1 x2 x3 hF
   rcases z with _|_
   ·go_wp2_with fail
    go_roundw
    case rel=>exact ⟨k+1,by omega,by go_num,fun j y hj hy=>(by
     rcases Nat.lt_or_ge j k with h|h
     ·exact HNO.out j y h hy
     ·have:j=k:=by omega
      subst this;rw [HX.out] at hy
      cases hy
      exact HZ.out.symm),F5.out⟩
    case measure=>simp [intOf];omega
   ·have HI:=O (abp HX.out HNO.out HZ.out.symm)
    go_wp2_with fail
    go_ret
    rw [HI.out];exact ⟨rfl,F5.out⟩
  ·have HI:=O (abo (p:=p) (l:=l) (fun j y hj hy=>HNO.out j y oy hy))
   go_wp2_with fail
   go_ret
   rw [HI.out];exact ⟨rfl,hF.out⟩
end Go.Proofs.YtodkhcbjpodgeaaGreat
