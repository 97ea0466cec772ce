/-
  The contract of slices.Delete for one message.
-/
import Derived.Test.YtjnfmfmglehmbaaGreatQ06
namespace Go.Proofs.YtjnfmfmglehmbaaGreat
open Go.ChangeShapes Go.WideShapes Go.ChangeAt Go.RowKit
set_option linter.unusedVariables false
set_option maxRecDepth 100000
set_option maxHeartbeats 4000000
abbrev TMq:TypeId:=37
theorem af3:(Tryz.prog.info? TMq).map (fun i=>(i.zero,i.size,i.bytes))=some (some (.agg #[.int .i64 0,.int .i64 0,.int .i64 0,.int .i64 0,.int .i64 0,.int .i64 0,.int .i64 0,.bool false,.slice none 0 0]),9,88):=by kernel_rfl
def afw (cur:Array Value):Nat→List Value→Array Value
 |_,[]=>cur
 |o,v :: r=>afw (cur.setIfInBounds o v) (o+1) r
theorem vM:∀(vs:List Value) (cur:Array Value) (o:Nat),(afw cur o vs).size=cur.size:=by
 intro vs
 induction vs with
 |nil=>intro cur o;rfl
 |cons v r ih=>intro cur o;simp only [afw,ih,Array.size_setIfInBounds]
theorem vN:∀(vs:List Value) (cur:Array Value) (o:Nat),o+vs.length≤cur.size→(afw cur o vs).toList=cur.toList.take o++vs++cur.toList.drop (o+vs.length):=by
 intro vs
 induction vs with
 |nil=>intro cur o _;simp [afw]
 |cons v r ih=>
  intro cur o h;rw [List.length_cons] at h;simp only [afw];rw [ih _ _ (by rw [Array.size_setIfInBounds];omega),Array.toList_setIfInBounds];have hl:o<cur.toList.length:=by rw [Array.length_toList];omega
  rw [List.set_eq_take_append_cons_drop,if_pos hl];have ht:(cur.toList.take o).length=o:=by rw [List.length_take];omega
  have e1:(cur.toList.take o++v :: cur.toList.drop (o+1)).take (o+1)=cur.toList.take o++[v]:=by
   rw [List.take_append,ht,List.take_of_length_le oy,show o+1-o=1 from by omega]
   rfl
  have e2:(cur.toList.take o++v :: cur.toList.drop (o+1)).drop (o+1+r.length)=cur.toList.drop (o+(r.length+1)):=by
   rw [List.drop_append,ht,List.drop_of_length_le oy,show o+1+r.length-o=r.length+1 from by omega,List.drop_succ_cons,List.drop_drop,List.nil_append]
   congr 1
   omega
  rw [e1,e2,List.length_cons]
  simp
theorem Blk.setCells {w:World}{g:Nat}{t:TypeId}:∀(vs:List Value) (o:Nat) {w:World} {cur:Array Value},Blk w g t cur→Blk (w.setCells g o vs) g t (afw cur o vs):=by
 intro vs
 induction vs with
 |nil=>intro o w cur h;exact h
 |cons v r ih=>intro o w cur h;exact ih (o+1) (h.aU o v)
theorem Fr.setCells {F:Nat→Prop}{a:World}{g:Nat}(hg:F g∨a.heap.size≤g):∀(vs:List Value) (o:Nat) {w:World},Fr F a w→Fr F a (w.setCells g o vs):=by
 intro vs
 induction vs with
 |nil=>intro o w h;exact h
 |cons v r ih=>intro o w h;exact ih (o+1) (h.setCell (p:=⟨g,o,none⟩) hg v)
theorem tX {P:Program}(w:World)(t e ty:TypeId)(z:Value)(ht:P.underlying t=some (.slice e))(hv:∀w,(zeroValue e).run P w= .ok z w)(hp:0<z.cells.size)(h1:∀v∈z.cells.toList,v.oneCell' =true)(b o c:Nat)
  (hc:∀j,j<z.cells.size→(w.cell? ⟨b,o+j,none⟩).isSome=true) (hf:∀j,j<z.cells.size→w.frozen? ⟨b,o+j,none⟩=false):
  (Builtin.clear_ #[t] ty #[.slice (some ⟨b,o,none⟩) 1 c]).run P w= .ok (.tuple #[]) (w.setCells b o z.cells.toList):=by
 have hzc:(Builtin.zeroCells z.cells 1).toList=z.cells.toList:=by
  simp only [Builtin.zeroCells,Nat.one_mul]
  apply List.ext_getElem
  ·simp
  ·intro i h1 h2
   have hi:i<z.cells.size:=by simpa using h2
   simp [Nat.mod_eq_of_lt hi,getElem!_pos z.cells i hi]
 have hst:=run_storeCells_cells (P:=P) b o z.cells.toList 0 w (by simpa using hc) (by simpa using hf) h1;simp only [Nat.add_zero] at hst
 simp [Builtin.clear_,run_underlying ht,hv,hzc,hst]
theorem akl {P:Program}(t e:TypeId)(ht:P.underlying t=some (.slice e))(i:TypeInfo)(hi:P.info? e=some i)(g n c k:Nat)(hk:k≤c):
  ∀w:World,(Instr.slice t (.slice (some ⟨g,0,none⟩) n c) none (some (.int .i64 (k:Int))) none).run P w= .ok (.slice (some ⟨g,0,none⟩) k c) w:=by
 intro w;have he:P.elem t=e:=by simp [Program.elem,ht]
 rw [run_slice_h w t _ n c (by rw [he];exact ht) .i64 (k:Int) oy oy,he]
 simp [sizeOf,typeInfo,hi,sliced]
 intro _;unfold Addr.add
 split<;>simp_all
theorem afg {P:Program}(t e:TypeId)(ht:P.underlying t=some (.slice e))(i:TypeInfo)(hi:P.info? e=some i)(g n c k:Nat)(hk:k≤n):
  ∃ad:Addr,(∀w:World,(Instr.slice t (.slice (some ⟨g,0,none⟩) n c) (some (.int .i64 (k:Int))) none none).run P w= .ok (.slice (some ad) (n-k) (c-k)) w)∧(c≠k→ad=⟨g,k*i.size,none⟩):=by
 have he:P.elem t=e:=by simp [Program.elem,ht]
 refine ⟨if c=k then ⟨g,0,none⟩ else ⟨g,k*i.size,none⟩,fun w=> ?_,fun h=>if_neg h⟩;rw [run_slice_l w t _ n c (by rw [he];exact ht) .i64 (k:Int) oy oy,he]
 simp [sizeOf,typeInfo,hi,sliced]
 split
 ·rfl
 ·unfold Addr.add
  split<;>simp_all
theorem afi {P:Program}(t e:TypeId)(ht:P.underlying t=some (.slice e))(i:TypeInfo)(hi:P.info? e=some i)(g k c:Nat)(hk:k+1≤c):
  ∀w:World,(Instr.slice t (.slice (some ⟨g,0,none⟩) k c) (some (.int .i64 (k:Int))) (some (.int .i64 ((k+1:Nat):Int))) none).run P w= .ok (.slice (some ⟨g,k*i.size,none⟩) 1 (c-k)) w:=by
 intro w;have he:P.elem t=e:=by simp [Program.elem,ht]
 rw [run_slice_lh w t _ k c (by rw [he];exact ht) .i64 .i64 (k:Int) ((k+1:Nat):Int) oy oy oy,he]
 simp [sizeOf,typeInfo,hi,sliced]
 rw [if_neg oy];unfold Addr.add
 split<;>simp_all
theorem aee {w:World}{F:Nat→Prop}{A:Option Addr}{c n:Nat}{xs:List Value}(h:bG w F TMq 9 (.slice A n c) n xs)(alj:∀u∈xs,u.oneCell' =true){i r:Nat}(hn:n=i+1+r):
  Calls Tryz.prog 116 #[.slice A n c,.int .i64 (i:Int),.int .i64 ((i+1:Nat):Int)] w fun e w' =>e= .returned (.slice A (i+r) c)∧bG w' F TMq 9 (.slice A (i+r) c) (i+r) (xs.take (i*9)++xs.drop ((i+1)*9))∧Fr F w w' :=by
 obtain ⟨i0,hi0,hz0,hz1,hz2⟩:=info_parts af3;have hxl:xs.length=n*9:=h.1.1
 rcases h.1.2 with ⟨-,h0⟩|⟨g,cap,cur,hv,hb,hgg,hnc,hcm,hcs,htk⟩
 ·omega
 injection hv with e1 e2 e3;subst e1 e3;have hFg:F g:=h.2 g rfl;have ht:Tryz.prog.underlying 63=some (.slice TMq):=by kernel_rfl
 have hblk:Blk w g TMq cur:=hgg;have hcur:∀k,k<n*9→cur[k]? =xs[k]? :=fun k hk=>by rw [←htk,List.getElem?_take,if_pos hk,Array.getElem?_toList]
 obtain ⟨news,hnews⟩:∃news,news=xs.drop ((i+1)*9):=⟨_,rfl⟩;have hnl:news.length=r*9:=by rw [hnews,List.length_drop];omega
 obtain ⟨ad,hs2,had⟩:=afg 63 TMq ht i0 hi0 g n c (i+1) oy;have hs1:=akl 63 TMq ht i0 hi0 g n c i oy;have hs3:=afi 63 TMq ht i0 hi0 g (i+r) c oy;rw [hz1] at had hs3;rw [show n-(i+1)=r from by omega] at hs2;have hsrc:∀j u,news[j]? =some u→w.drew.cell? (ad.add j)=some u:=by
  intro j u hu;have hj:=(List.getElem?_eq_some_iff.1 hu).1;rw [had oy];have ea:(⟨g,(i+1)*9,none⟩:Addr).add j=⟨g,(i+1)*9+j,none⟩:=by unfold Addr.add;split<;>simp_all
  rw [ea]
  show w.cell? _=_
  rw [hblk.cell,hcur _ oy];rw [hnews,List.getElem?_drop] at hu;exact hu
 have hone:∀u∈news,u.oneCell' =true:=fun u hu=>alj u (by rw [hnews] at hu;exact List.mem_of_mem_drop hu);have hsp:∀j,j<news.length→(w.drew.cell? ⟨g,0+i*9+j,none⟩).isSome=true∧w.drew.frozen? ⟨g,0+i*9+j,none⟩=false:=by
  intro j hj;refine ⟨?_,hblk.frozen _⟩
  show (w.cell? _).isSome=true
  rw [hblk.cell,Array.getElem?_eq_getElem oy]
  rfl
 obtain ⟨W1,hW1⟩:∃W1,W1=w.drew.setCells g (0+i*9) news:=⟨_,rfl⟩;have hb1:Blk W1 g TMq (afw cur (i*9) news):=by
  rw [hW1,Nat.zero_add];exact Blk.setCells (w:=w) news (i*9) (show Blk w.drew g TMq cur from hblk)
 have hf1:Fr F w W1:=by rw [hW1];exact Fr.setCells (.inl hFg) news _ (Fr.refl F w).drew
 have hs:(afw cur (i*9) news).size=cur.size:=vM _ _ _;obtain ⟨zc,hzc⟩:∃zc:List Value,zc=(Value.cells (.agg #[.int .i64 0,.int .i64 0,.int .i64 0,.int .i64 0,.int .i64 0,.int .i64 0,.int .i64 0,.bool false,.slice none 0 0])).toList:=⟨_,rfl⟩;have hzl:zc.length=9:=by rw [hzc];rfl
 have hcl:∀ty,(Builtin.clear_ #[63] ty #[.slice (some ⟨g,(i+r)*9,none⟩) 1 (c-(i+r))]).run Tryz.prog W1= .ok (.tuple #[]) (W1.setCells g ((i+r)*9) zc):=by
  intro ty;rw [hzc];refine tX W1 _ TMq ty _ ht (fun w=>by simp [zeroValue,typeInfo,hi0,hz0]) dcd (by intro v hv;simp [Value.cells] at hv;rcases hv with rfl|rfl|rfl<;>rfl) g _ _ (fun j hj=> ?_) (fun j hj=>hb1.frozen _);have hj:j<9:=hj;rw [hb1.cell,Array.getElem?_eq_getElem oy]
  rfl
 have hfin:bG (W1.setCells g ((i+r)*9) zc) F TMq 9 (.slice (some ⟨g,0,none⟩) (i+r) c) (i+r) (xs.take (i*9)++xs.drop ((i+1)*9))∧Fr F w (W1.setCells g ((i+r)*9) zc):=by
  have hb2:=Blk.setCells (w:=w) zc ((i+r)*9) hb1;refine ⟨⟨⟨by rw [List.length_append,List.length_take,List.length_drop];omega,.inr ⟨g,c,_,rfl,Nat.zero_le _,hb2,by omega,hcm,by rw [vM,hs,hcs],?_⟩⟩,fun g' hg' =>h.2 g' hg'⟩,Fr.setCells (.inl hFg) zc _ hf1⟩;have h1:cur.toList.take (i*9)=xs.take (i*9):=by rw [←htk,List.take_take];congr 1;omega
  have hll:(cur.toList.take (i*9)++news).length=(i+r)*9:=by rw [List.length_append,List.length_take,hnl,Array.length_toList];omega
  rw [vN zc _ _ (by rw [hs,hzl];omega),vN news cur _ oy,List.append_assoc (List.take _ _),List.take_append_of_le_length (by rw [List.length_take,List.length_append,hll];omega),List.take_take,Nat.min_self,List.take_append_of_le_length oy,List.take_of_length_le oy,h1,hnews]
 obtain ⟨bS,HW1,S1,S2,S3,S4⟩:=lG hfin hW1 hsrc hone hsp hnl;clear hfin hW1 hsrc hone hsp hnl hb1 hf1 hs hzl hblk hcur hnews hgg htk hcs had h alj hxl hb;have hij:(i:Int)+1≤(n:Int):=by omega
 have atf:(n:Int)≤(c:Int):=by omega
 subst hn;have HZC:=O hzc;clear hzc;rw [show ((i+1:Nat):Int)=(i:Int)+1 from by omega] at hs2;rw [show ((i+r+1:Nat):Int)=(i:Int)+1+(r:Int) from by omega] at hs3;rw [show ((i+r:Nat):Int)=(i:Int)+(r:Int) from by omega] at hs3
 go_in
 go_wp2_with fail
 go_region_law (refine step_append_room rfl (.tmp 22) (.tmp 25) 63 rfl TMq i0 9 ht hi0 hz1 g 0 i c (by simp [Act.eval,Act.put]) ad r (c-(i+1)) news (by simp [Act.eval,Act.put]) S4.out S1.out S2.out oy S3.out ?_;rw [←HW1.out])
 go_wp2_with fail
 go_ret
 exact ⟨rfl,bS.out.1,bS.out.2⟩
end Go.Proofs.YtjnfmfmglehmbaaGreat
