/-
  The contract of the reference's copy of a disk.
-/
import Derived.Test.YtjnfmfmglehmbaaGreatQ26
import Derived.Test.YtjnfmfmglehmbaaGreatQ21
namespace Go.Proofs.YtjnfmfmglehmbaaGreat
open Go.ChangeShapes Go.WideShapes Go.ChangeAt Go.RowKit
set_option linter.unusedVariables false
set_option maxRecDepth 100000
set_option maxHeartbeats 4000000
set_option maxHeartbeats 1000000 in
theorem aad (w:World)(F:Nat→Prop)(d:Nat)(xs:List UInt8)(k:Nat)(h:fq dz w F d xs k):
  Calls Tryz.prog 112 #[.pointer (some ⟨d,0,none⟩)] w fun e w' =>∃d' F',e= .returned (.pointer (some ⟨d',0,none⟩))∧fq dz w' F' d' xs k∧(∀i,F' i→w.heap.size≤i)∧Fr No w w' :=by
 obtain ⟨A,c,h1,h2,h3,h4,h5,c0,c1,f0,f1,hn,hcap⟩:=h.open_;obtain ⟨i0,hi0,hz0,hz1,hz2⟩:=info_parts bD;have hdl:=h1.lt;obtain ⟨H1,H3,HN⟩:=bP h1 h3 hn;clear h1 h3 hn;clear h;have hka:∀W:World,Fr No w W→W.cell? ⟨d,0,none⟩=some (.slice A xs.length c)∧W.cell? ⟨d,1,none⟩=some (.int .i64 (k:Int))∧Fr No w W:=fun W hW=>⟨(H1.out.fr hW id).cell 0,(H1.out.fr hW id).cell 1,hW⟩;have HKA:=O hka;clear hka
 go_in
 go_wp2_with fail
 go_region_held3 (fun w' =>w'.cell? ⟨d,0,none⟩=some (.slice A xs.length c)∧w'.cell? ⟨d,1,none⟩=some (.int .i64 (k:Int))∧Fr No w w') (exact HKA.out _ frz)
  ((refine gM _ (by rfl) (.tmp 3) (.tmp 7) _ (by rfl) 0 5 i0 _ 1 Tryz.underlying128 hi0 hz0 hz1 hz2 rfl (.slice (some ⟨w.heap.size,0,none⟩) 0 0) 0 [] (by rfl) (by exact (Own.made w 5).1) w.heap.size A xs.length c (xs.map bv) (by rfl) HN.out (H3.out.rd.ak frz (Nat.le_refl _)) (by rw [List.length_map]) (dS _) mxl oy (Nat.zero_le _) ?_;intro v1 w1 happ;obtain ⟨o1,f1'⟩:=Own.copied (w:=w) happ rfl (by rw [List.length_map]);have F1:Fr No w w1:=Fr.aA frz f1' (fun i hi=>hi);obtain ⟨A4,c4,rfl,n4⟩:=o1.form;rw [List.length_map] at o1 ⊢;have O1:=O o1;clear happ o1 f1' n4))
 all_goals
  go_wp2_with fail
  go_ret
  exact zD O1.out F1 h4 h5
structure Kept (r r' :Rs):Prop where
 up:r.js.term≤r'.js.term
 cu:r'.js.term=r.js.term→r.js.cu≠-1→r'.js.cu=r.js.cu
 log:r'.js.log.take r.commit=r.js.log.take r.commit
 cm:r.commit≤r'.commit
 n:r'.n=r.n
theorem Kept.refl (r:Rs):Kept r r:=⟨Int.le_refl _,fun _ _=>rfl,rfl,Nat.le_refl _,rfl⟩
theorem Kept.trans {a b c:Rs}(h:Kept a b)(k:Kept b c):Kept a c:=by
 refine ⟨Int.le_trans h.up k.up,fun ht hv=> ?_,?_,Nat.le_trans h.cm k.cm,k.n.trans h.n⟩
 ·have h1:=h.up
  have h2:=k.up;have h3:=h.cu oy hv;rw [k.cu oy (by rw [h3];exact hv),h3]
 ·have h1:=h.cm
  have h2:=congrArg (List.take a.commit) k.log;rw [List.take_take,List.take_take,Nat.min_eq_left h1] at h2;rw [h2,h.log]
theorem Kept.same {r r' :Rs}(hj:r'.js=r.js)(hc:r.commit≤r'.commit)(hn:r'.n=r.n):Kept r r' :=
 ⟨by rw [hj];exact Int.le_refl _,fun _ _=>by rw [hj],by rw [hj],hc,hn⟩
theorem Kept.advance (r:Rs):Kept r r.advance:=Kept.same rfl (r.aes _).1 rfl
theorem Kept.meets (r:Rs)(t:Int):Kept r (r.meets t):=by
 unfold Rs.meets
 split
 ·exact ⟨by simp only;omega,fun h=>by simp only at h;omega,rfl,Nat.le_refl _,rfl⟩
 ·exact Kept.refl r
theorem Kept.aJ (r:Rs):Kept r r.aJ.1:=by
 unfold Rs.aJ
 split
 ·exact Kept.refl r
 ·split
  ·exact ⟨by simp only [Rs.lead];omega,fun h=>by simp only [Rs.lead] at h;omega,rfl,Nat.le_refl _,rfl⟩
  ·exact ⟨by simp only;omega,fun h=>by simp only at h;omega,rfl,Nat.le_refl _,rfl⟩
theorem Kept.propose {r:Rs}(hok:bU r)(e:En):Kept r (r.propose e).1:=by
 unfold Rs.propose
 split
 ·unfold Rs.proposed
  refine Kept.trans ?_ (Kept.advance _);obtain ⟨t1,t2⟩:=yw r.js r.js.term e;refine ⟨by simp only;omega,fun _ _=>t2,?_,Nat.le_refl _,rfl⟩;simp only
  by_cases h0:iB r.js r.js.term e=0
  ·rw [lq h0]
   simp only;rw [List.take_append_of_le_length hok.com]
  ·rw [gJ h0]
 ·exact Kept.refl r
theorem Kept.dK (r:Rs)(m:Ms):Kept r (r.dK m).1:=by
 unfold Rs.dK;simp only
 split
 ·rename_i hg
  unfold Rs.grants at hg;simp only [decide_eq_true_eq] at hg;exact ⟨by simp only;omega,fun _ hv=>by simp only;omega,rfl,Nat.le_refl _,rfl⟩
 ·exact Kept.refl r
theorem Kept.bW (r:Rs)(m:Ms):Kept r (r.bW m).1:=by
 unfold Rs.bW
 split
 ·exact Kept.refl r
 ·split
  ·exact Kept.same rfl (Nat.le_refl _) rfl
  ·exact Kept.same rfl (Nat.le_refl _) rfl
theorem Kept.aR (r:Rs)(m:Ms):Kept r (r.aR m).1:=by
 unfold Rs.aR
 split
 ·exact Kept.refl r
 ·split
  ·exact Kept.same rfl (Nat.le_refl _) rfl
  ·split
   ·refine Kept.trans ?_ (Kept.advance _)
    exact Kept.same rfl (Nat.le_refl _) rfl
   ·exact Kept.refl r
theorem Kept.aK {r:Rs}{m:Ms}(h:bU r)(hm:bH r m)(hk:m.kind=3)(ht:m.term≤r.js.term):Kept r (r.aK m).1:=by
 unfold Rs.aK
 split
 ·exact Kept.refl r
 ·split
  ·exact Kept.refl r
  ·split
   ·exact Kept.same rfl (Nat.le_refl _) rfl
   ·rename_i h1 h2 h3
    obtain ⟨k1,k2⟩:=jv h hm hk oy (by simpa using h3)
    split
    ·rename_i h4
     split
     ·exact Kept.same rfl (Nat.le_refl _) rfl
     ·rename_i h5
      rw [k2 h4];refine ⟨Int.le_refl _,fun _ _=>rfl,?_,by simp only;omega,rfl⟩;simp only;rw [List.take_append_of_le_length (by rw [List.length_take];omega),List.take_take,Nat.min_eq_left oy]
    ·exact Kept.same rfl (by simp only;omega) rfl
theorem Kept.handle {r:Rs}(h:bU r)(m:Ms):Kept r (r.handle m).1:=by
 unfold Rs.handle
 split
 ·exact Kept.refl r
 ·rename_i hp
  have hm:bH r m:=Rs.cB.1 (by simpa using hp);refine (Kept.meets r m.term).trans ?_;have h1:=h.meets m.term hm.t1;have h2:=hm.kQ m.term;have h3:=(iG r m.term).1;unfold Rs.takes
  split
  ·exact Kept.dK _ _
  ·split
   ·exact Kept.bW _ _
   ·split
    ·rename_i hk
     exact Kept.aK h1 h2 hk h3
    ·exact Kept.aR _ _
def Turns (c:Prop)(r r' :Rs):Prop:=(c∧r' =r.crash)∨(¬c∧Kept r r')
theorem Turns.laws {c:Prop}{r r' :Rs}(h:bU r)(k:Turns c r r'):
  r.js.term≤r'.js.term∧(r'.js.term=r.js.term→r.js.cu≠-1→r'.js.cu=r.js.cu)∧r'.js.log.take r.commit=r.js.log.take r.commit∧(c→r'.js.log=r.js.log)∧(¬c→r.commit≤r'.commit)∧r'.n=r.n:=by
 rcases k with ⟨hc,rfl⟩|⟨hc,k⟩
 ·exact ⟨Int.le_refl _,fun _ _=>rfl,rfl,fun _=>rfl,fun h=>absurd hc h,rfl⟩
 ·exact ⟨k.up,k.cu,k.log,fun h=>absurd h hc,fun _=>k.cm,k.n⟩
theorem mR (n:Int)(w:World):
  Calls Tryz.prog 35 #[.int .i64 n] w fun e w' =>e= .returned (bE (n % 1000)).v∧Fr No w w' :=by
 have hm:=fun W=>dO n 1000 W dcd dcd;unfold bE En.v;revert hm;generalize n % 1000=m;intro hm;have HM:=O hm;clear hm
 go_in
 go_wp2_with fail
 refine (HM.out _).mono ?_;rintro e w1 ⟨rfl,rfl⟩
 go_wp2_with fail
 refine bodyPost_ret (v:= .agg _) (by simp [results,Tryz.results35,go_sem]) rfl ⟨rfl,?_⟩;exact aj _ _
theorem tK (w:World):
  Calls Tryz.prog 10 #[] w fun e w' =>e= .returned (.bool true)∧Fr No w w' :=by
 have hn1:∀W,Calls Tryz.prog 8 #[.int .i64 0,.int .i64 1] W fun e w' =>∃p F,e= .returned (.tuple #[.pointer (some ⟨p,0,none⟩),.int .i64 0])∧RAt w' F p (dF 0 1) 0∧(∀i,F i→W.heap.size≤i)∧Fr No W w' :=fun W=>ac3 0 1 W dcd dcd dcd;have hn3:∀W,Calls Tryz.prog 8 #[.int .i64 0,.int .i64 3] W fun e w' =>∃p F,e= .returned (.tuple #[.pointer (some ⟨p,0,none⟩),.int .i64 0])∧RAt w' F p (dF 0 3) 0∧(∀i,F i→W.heap.size≤i)∧Fr No W w' :=fun W=>ac3 0 3 W dcd dcd dcd;have dP:∀W,Calls Tryz.prog 35 #[.int .i64 1] W fun e w' =>e= .returned (bE 1).v∧Fr No W w' :=fun W=>mR 1 W;have he:(bE 1).ok:=kR 1 dcd dcd;have x1:((dF 0 1).aJ.1.fH (bE 1))=0:=by decide+kernel
 have x2:((((dF 0 1).aJ.1).propose (bE 1)).1.commit:Int)=1:=by decide+kernel
 have x3:(((dF 0 1).aJ.1).propose (bE 1)).1.role=3:=by decide+kernel
 have y1:(dF 0 3).aJ.2.length=2:=by decide+kernel
 have y2:(dF 0 3).aJ.2[0]? =some ⟨1,0,1,1,0,0,0,false,[]⟩:=rfl;have y3:(dF 0 3).aJ.1.role=2:=by decide+kernel
 obtain ⟨HN1,HN3,ao0,HE,X1,X2,X3,Y1,Y2,Y3⟩:=lH hn1 hn3 dP he x1 x2 x3 y1 y2 y3;clear hn1 hn3 dP he x1 x2 x3 y1 y2 y3
 go_in
 go_wp2_with fail
 refine (HN1.out _).mono ?_;rintro e w1 ⟨pa,Fa,rfl,a1,n1,f1⟩;obtain ⟨A1,N1,F1⟩:=bP a1 n1 f1;clear a1 n1 f1
 go_wp2_with fail
 refine (HN3.out _).mono ?_;rintro e w2 ⟨pb,Fb,rfl,b2,n2,f2⟩;have hab:∀i,Fb i→¬Fa i:=fun i hi hh=>by have h1:=A1.out.lt i hh;have h2:=n2 i hi;omega
 have a2:=A1.out.ak f2;have n2' :∀i,Fb i→w.heap.size≤i:=fun i hi=>Nat.le_trans F1.out.size (n2 i hi);replace f2:=F1.out.ah f2;clear A1 F1 n2;obtain ⟨HAB,A2⟩:=aO hab a2;have N2' :=O n2';obtain ⟨F2,B2⟩:=aO f2 b2;clear hab a2 n2' f2 b2
 go_wp2_with fail
 refine (kN A2.out oy).mono ?_;rintro e w3 q3;obtain ⟨U3,c3,H3,G3,rfl,m3,a3,n3,g3,d3,f3,i3,f3'⟩:=q3.own F2.out N1.out;have b3:=B2.out.fr f3' HAB.out;have aqk:∀i,Fb i→¬H3 i:=fun i hi hh=>by
  rcases i3 i hh with q|q
  ·exact HAB.out i hi q
  ·have:=B2.out.lt i hi;omega
 clear A2 B2 F2 N1 HAB m3 g3 d3 f3' i3;obtain ⟨A3,B3,N3,F3,apd⟩:=jr a3 b3 n3 f3 aqk;clear a3 b3 n3 f3 aqk
 go_wp2_with fail
 refine (ao0.out _).mono ?_;rintro e w4 ⟨rfl,f4⟩;have a4:=A3.out.ak f4;have b4:=B3.out.ak f4;replace f4:=F3.out.ah f4;clear A3 B3 F3;obtain ⟨A4,B4,F4⟩:=bP a4 b4 f4;clear a4 b4 f4
 go_wp2_with fail
 refine (qm A4.out (bE 1) HE.out oy).mono ?_;rintro e w5 q5;obtain ⟨U5,c5,H5,G5,rfl,m5,a5,n5,g5,d5,f5,i5,f5'⟩:=q5.own F4.out N3.out;have b5:=B4.out.fr f5' apd.out;have aqj:∀i,Fb i→¬H5 i:=fun i hi hh=>by
  rcases i5 i hh with q|q
  ·exact apd.out i hi q
  ·have:=B4.out.lt i hi;omega
 rw [X1.out];clear B4 F4 N3 m5 g5 d5 i5 f5' A4 apd;obtain ⟨A5,B5,N5,F5,aq1⟩:=jr a5 b5 n5 f5 aqj;clear a5 b5 n5 f5 aqj
 go_wp2_with fail
 refine (kN B5.out oy).mono ?_;rintro e w6 q6;obtain ⟨U6,c6,H6,G6,rfl,m6,a6,n6,g6,d6,f6,i6,f6'⟩:=q6.own F5.out N2'.out;have b6:=A5.out.fr f6' fun i hi hh=>aq1.out i hh hi;rw [Y1.out] at m6 ⊢;obtain ⟨bb,v6,rfl,hb6,hg6,he6,k0,k1,k2,k3,-⟩:=m6.at_ Y2.out;simp only [Nat.zero_mul,Nat.zero_add] at k0 k1 k2 k3;have hc:=kM b6;rw [X2.out] at hc;have hr:=vO b6;have hr2:=vO a6;rw [Y3.out] at hr2;rw [X3.out] at hr;clear A5 B5 F5 aq1 m6 g6 d6 i6 f6' b6 a6 he6 n6 k1 k2;obtain ⟨F6,HC,HR,HR2⟩:=fK f6 hc hr hr2;clear f6 hc hr hr2
 go_wp2_with fail
 refine HC.out.mono ?_;rintro e w7 ⟨rfl,rfl⟩
 go_wp2_with fail
 refine HR.out.mono ?_;rintro e w7 ⟨rfl,rfl⟩
 go_wp2_with fail
 refine HR2.out.mono ?_;rintro e w7 ⟨rfl,rfl⟩
 go_wp2_with fail
 go_ret
 exact ⟨au rfl,F6.out⟩
theorem Fr.ah0 {F:Nat→Prop}{a w:World}(h:Fr F a.drew w):Fr F a w:=⟨h.os,h.tape,h.output,h.size,h.block⟩
theorem bG.ase {w W w1:World}{b:Nat}{e:TypeId}{size:Nat}{xs:List Value}{m:Nat}{v1:Value}(hf:Fr No w W)(hb:w.heap.size≤b)(hbk:Blk W b e #[])(happ:bN W 0 e size (.slice (some ⟨b,0,none⟩) 0 0) 0 [] xs m v1 w1):
  bG w1 (fun i=>w.heap.size≤i) e size v1 m xs∧Fr (fun i=>i=b) W w1∧Fr No w w1∧∀g,v1.ownBlock=some g→g=b∨W.heap.size≤g:=by
 obtain ⟨h1,h2⟩:=(aip hbk).appended happ;rw [List.nil_append,Nat.zero_add] at h1;have hs:=hf.size;exact ⟨h1.mono fun i hi=>by rcases hi with hi|hi<;>omega,h2,hf.aA h2 fun i hi=>by omega,fun g hg=>by rcases h1.2 g hg with q|q<;>omega⟩
theorem agq {W w1 w2:World}{b d k:Nat}{xs:List UInt8}{G:Nat→Prop}{v:Value}(hD:fq dz w2 G d xs k)(hf:Fr No w2 W)(h1:Fr (fun i=>i=b) W w1)(hb:¬G b)(hv:∀g,v.ownBlock=some g→g=b∨W.heap.size≤g):
  fq dz w1 G d xs k∧∀g,v.ownBlock=some g→¬G g:=
 ⟨(hD.ak hf).fr h1 fun i hi hh=>hb (hh▸hi),fun g hg hh=>by
  rcases hv g hg with q|q
  ·exact hb (q▸hh)
  ·have:=hD.lt g hh
   have:=hf.size
   omega⟩
theorem adp (l:List Lg):∀u∈dD l,u.oneCell' =true:=by
 intro u hu;simp only [dD,List.mem_flatMap] at hu;obtain ⟨x,-,hx⟩:=hu;simp only [Lg.cells,List.mem_cons,List.not_mem_nil,or_false] at hx
 rcases hx with rfl|rfl|rfl|rfl|rfl|rfl|rfl|rfl|rfl|rfl<;>rfl
theorem ace {w w2:World}{d:Nat}{xs:List UInt8}{k:Nat}{s:Js}{v:Value}{G:Nat→Prop}(hf:Fr No w w2)
  (hv:bG w2 (fun i=>w.heap.size≤i) TLg 10 v s.log.length (dD s.log)) (hd:fq dz w2 G d xs k) (hG:∀i,G i→w.heap.size≤i) (hvg:∀g,v.ownBlock=some g→¬G g):
  ∃j' d' F',Ending.returned (.pointer (some ⟨w2.heap.size,0,none⟩))=Ending.returned (.pointer (some ⟨j',0,none⟩))∧gy (w2.alloc (.cells #[.pointer (some ⟨d,0,none⟩),.int .i64 s.term,.int .i64 s.cu,v] TRJ)) F' j' d' xs k s∧(∀i,F' i→w.heap.size≤i)∧Fr No w (w2.alloc (.cells #[.pointer (some ⟨d,0,none⟩),.int .i64 s.term,.int .i64 s.cu,v] TRJ)):=by
 have hs:=hf.size;refine ⟨w2.heap.size,d,fun i=>w.heap.size≤i∧i<w2.heap.size+1,rfl,⟨v,G,Blk.new _ _ _,⟨hs,by omega⟩,?_,hd.ak (aj _ _),?_,?_,hvg,?_⟩,fun i hi=>hi.1,hf.alloc _⟩
 ·refine ⟨(hv.ak (aj _ _)).1,fun g hg=>⟨hv.2 g hg,?_⟩⟩
  have:=hv.lt g hg
  omega
 ·intro i hi
  have:=hd.lt i hi;exact ⟨hG i hi,by omega⟩
 ·intro h
  have:=hd.lt _ h
  omega
 ·intro i hi
  simp
  omega
theorem aif {w:World}{F:Nat→Prop}{j d:Nat}{xs:List UInt8}{k:Nat}{s:Js}(h:gy w F j d xs k s)(hl:s.log.length≤4096):
  Calls Tryz.prog 53 #[.pointer (some ⟨j,0,none⟩)] w fun e w' =>∃j' d' F',e= .returned (.pointer (some ⟨j',0,none⟩))∧gy w' F' j' d' xs k s∧(∀i,F' i→w.heap.size≤i)∧Fr No w w' :=by
 obtain ⟨A,c,Fd,h1,h2,h3,h4,h5,h6,h7,h8,d0,d1,d2,d3,hn⟩:=h.open_;obtain ⟨i0,hi0,hz0,hz1,hz2⟩:=info_parts fV;have hjl:=h1.lt;have hrd:=h3.rd;obtain ⟨hc1,hc2⟩:=h3.cap;have hone:=adp s.log;have hll:=bg s.log;have hka:∀W:World,Fr No w W→W.cell? ⟨j,0,none⟩=some (.pointer (some ⟨d,0,none⟩))∧W.cell? ⟨j,1,none⟩=some (.int .i64 s.term)∧W.cell? ⟨j,2,none⟩=some (.int .i64 s.cu)∧W.cell? ⟨j,3,none⟩=some (.slice A s.log.length c):=fun W hW=>let g:=h1.fr hW id;⟨g.cell 0,g.cell 1,g.cell 2,g.cell 3⟩;have hcp:=fun W (hf:Fr No w W)=>aad W Fd d xs k (h4.ak hf);clear h h1 h2 h3 h4 h5 h6 h7 h8;have HN' :=O hn;have hd:=hka w.drew (Fr.refl No w).drew;clear hn d0 d1 d2 d3;obtain ⟨HRD,HKA,HCP,zL,HLL⟩:=jr hrd hka hcp hone hll;clear hrd hka hcp hone hll
 go_in
 go_upto_region 1 with fail
 go_region_held3 (fun V=>V.cell? ⟨j,0,none⟩=some (.pointer (some ⟨d,0,none⟩))∧V.cell? ⟨j,1,none⟩=some (.int .i64 s.term)∧V.cell? ⟨j,2,none⟩=some (.int .i64 s.cu)∧V.cell? ⟨j,3,none⟩=some (.slice A s.log.length c)) (first|exact hd|exact HKA.out _ (by repeat (with_reducible first|assumption|exact Fr.refl _ _|refine Fr.alloc ?_ _|refine Fr.drew ?_|refine Fr.drewN ?_ _|refine Fr.setCell ?_ (.inr (by assumption)) _))) (first
  |(go_at_call 112;refine (HCP.out _ (by repeat (with_reducible first|assumption|exact Fr.refl _ _|refine Fr.alloc ?_ _|refine Fr.drew ?_|refine Fr.drewN ?_ _|refine Fr.setCell ?_ (.inr (by assumption)) _))).mono ?_;rintro e w2 ⟨d2,G2,rfl,a2,n2,f2⟩;have Q2:Fr No w w2:=Fr.ah (by repeat (with_reducible first|assumption|exact Fr.refl _ _|refine Fr.alloc ?_ _|refine Fr.drew ?_|refine Fr.drewN ?_ _|refine Fr.setCell ?_ (.inr (by assumption)) _)) f2;have D2:=O a2;have N2:=O n2;clear a2 n2;try replace f2:=Fr.ah0 f2)
  |(refine bf _ rfl (.tmp 16) (.tmp 20) _ rfl 0 TLg i0 _ 10 80 Tryz.underlying34 hi0 hz0 hz1 hz2 rfl dcd (.slice (some ⟨_,0,none⟩) 0 0) 0 [] (by rfl) (aip (Blk.fr (F:=No) (Blk.new _ _ _) (by repeat (with_reducible first|assumption|exact Fr.refl _ _|refine Fr.alloc ?_ _|refine Fr.drew ?_|refine Fr.drewN ?_ _|refine Fr.setCell ?_ (.inr (by assumption)) _)) id)).1 w.heap.size A s.log.length c (dD s.log) (by rfl) HN'.out (HRD.out.ak (by repeat (with_reducible first|assumption|exact Fr.refl _ _|refine Fr.alloc ?_ _|refine Fr.drew ?_|refine Fr.drewN ?_ _|refine Fr.setCell ?_ (.inr (by assumption)) _)) (Nat.le_refl _)) HLL.out zL.out mxl oy (Nat.zero_le _) ?_;intro v1 w1 happ;obtain ⟨o1,f1b,Q1,g1⟩:=bG.ase (w:=w) (by repeat (with_reducible first|assumption|exact Fr.refl _ _|refine Fr.alloc ?_ _|refine Fr.drew ?_|refine Fr.drewN ?_ _|refine Fr.setCell ?_ (.inr (by assumption)) _)) (Fr.size (F:=No) (by repeat (with_reducible first|assumption|exact Fr.refl _ _|refine Fr.alloc ?_ _|refine Fr.drew ?_|refine Fr.drewN ?_ _|refine Fr.setCell ?_ (.inr (by assumption)) _))) (Blk.fr (F:=No) (Blk.new _ _ _) (by repeat (with_reducible first|assumption|exact Fr.refl _ _|refine Fr.alloc ?_ _|refine Fr.drew ?_|refine Fr.drewN ?_ _|refine Fr.setCell ?_ (.inr (by assumption)) _)) id) happ;obtain ⟨A1,c1,rfl,-⟩:=o1.form;have O1:=O o1;have B1:=O f1b;have G1:=O g1;clear happ f1b o1 g1))
 all_goals
  go_wp2_with fail
  go_ret
  obtain ⟨k1,k2⟩:=agq D2.out (by repeat (with_reducible first|assumption|exact Fr.refl _ _|refine Fr.alloc ?_ _|refine Fr.drew ?_|refine Fr.drewN ?_ _|refine Fr.setCell ?_ (.inr (by assumption)) _)) B1.out (fun hh=>by have h1:=N2.out _ hh;have h2:=D2.out.lt _ hh;first|(exact absurd h2 (Nat.lt_irrefl _))|(simp at h1;done)|(simp at h1;omega)) G1.out;exact ace Q1 O1.out k1 (fun i hi=>by have h1:=N2.out i hi;simp at h1;omega) k2
end Go.Proofs.YtjnfmfmglehmbaaGreat
