/-
  Copies of the program's replicas.
-/
import Derived.Test.YtjnfmfmglehmbaaGreatQ20
namespace Go.Proofs.YtjnfmfmglehmbaaGreat
open Go.ChangeShapes Go.WideShapes Go.ChangeAt Go.RowKit
set_option linter.unusedVariables false
set_option maxRecDepth 100000
set_option maxHeartbeats 4000000
section
variable {w w' w1:World}{F G Fj:Nat→Prop}{p:Nat}{r r' :Rs}{n m:Nat}{V X M:Value}{bs xs ms:List Value}
theorem ahe (h:RAt w F p r n):Calls Tryz.prog 18 #[.pointer (some ⟨p,0,none⟩)] w fun e w' =>∃p' F',e= .returned (.pointer (some ⟨p',0,none⟩))∧RAt w' F' p' r n∧(∀i,F' i→w.heap.size≤i)∧Fr No w w' :=by
 obtain ⟨j,Fj,bits,nx,mt,h1,h2,⟨d,xs,k,rs,hj,hg,hl,hn,hy⟩,h4,h5,h6,h7,h8⟩:=h;have hcp:=fun W (hf:Fr No w W)=>alb (hj.ak hf) hl;obtain ⟨W0,hW0⟩:∃W0,W0=w.alloc (.cells (eP j r bits nx mt) abb):=⟨_,rfl⟩;have hf0:Fr No w W0:=by rw [hW0];exact aj _ _
 obtain ⟨g,hg0⟩:∃g,g=w.heap.size:=⟨_,rfl⟩;have hb0:Blk W0 g abb (eP j r bits nx mt):=by rw [hW0,hg0];exact Blk.new _ _ _
 have hfin:∀w2 j' d' F2,JAt w2 F2 j' d' xs k r.js→(∀i,F2 i→W0.heap.size≤i)→Fr No W0 w2→
   ∃p' F',Ending.returned (.pointer (some ⟨g,0,none⟩))= .returned (.pointer (some ⟨p',0,none⟩))∧RAt (w2.setCell ⟨g,0,none⟩ (.pointer (some ⟨j',0,none⟩))) F' p' r n∧(∀i,F' i→w.heap.size≤i)∧Fr No w (w2.setCell ⟨g,0,none⟩ (.pointer (some ⟨j',0,none⟩))):=by
  intro w2 j' d' F2 hj2 hF2 hf2;have hs0:W0.heap.size=w.heap.size+1:=by rw [hW0];simp
  have hb2:=hb0.fr hf2 id;have hfs:=dx w2 ⟨g,0,none⟩ (.pointer (some ⟨j',0,none⟩));have hgF:¬F2 g:=fun hh=>by have:=hF2 g hh;omega
  refine ⟨g,fun i=>i=g∨F2 i,rfl,⟨j',F2,bits,nx,mt,(hb2.aU 0 _).conv rfl,.inl rfl,⟨d',xs,k,rs,hj2.fr hfs (fun i hi he=>hgF ((show i=g from he)▸hi)),hg,hl,hn,hy⟩,fun i hi=> .inr hi,hgF,fun i hi=> ?_,h7,h8⟩,fun i hi=> ?_,?_⟩
  ·rcases hi with rfl|hi
   ·exact nll hb2.lt hfs.size
   ·exact nll (hj2.lt i hi) hfs.size
  ·rcases hi with rfl|hi
   ·omega
   ·have:=hF2 i hi;omega
  ·exact (hf0.ah hf2).aA hfs (fun i hi=>by have hi:i=g:=hi;omega)
 obtain ⟨c0,c1,c2,c3,c4,c5,c6,c7,c8,c9,c10,c11,c12,c13,c14,c15⟩:w.cell? ⟨p,0,none⟩=some (.pointer (some ⟨j,0,none⟩))∧w.cell? ⟨p,1,none⟩=some (.int .i64 (r.id:Int))∧w.cell? ⟨p,2,none⟩=some (.int .i64 (r.n:Int))∧w.cell? ⟨p,3,none⟩=some (.int .i64 r.role)∧w.cell? ⟨p,4,none⟩=some (.int .i64 (r.commit:Int))∧w.cell? ⟨p,5,none⟩=some (.int .i64 bits)∧w.cell? ⟨p,6,none⟩=some (.int .i64 (nx 0))∧w.cell? ⟨p,7,none⟩=some (.int .i64 (nx 1))∧w.cell? ⟨p,8,none⟩=some (.int .i64 (nx 2))∧w.cell? ⟨p,9,none⟩=some (.int .i64 (nx 3))∧w.cell? ⟨p,10,none⟩=some (.int .i64 (nx 4))∧w.cell? ⟨p,11,none⟩=some (.int .i64 (mt 0))∧w.cell? ⟨p,12,none⟩=some (.int .i64 (mt 1))∧w.cell? ⟨p,13,none⟩=some (.int .i64 (mt 2))∧w.cell? ⟨p,14,none⟩=some (.int .i64 (mt 3))∧w.cell? ⟨p,15,none⟩=some (.int .i64 (mt 4)):=
  ⟨h1.cell 0,h1.cell 1,h1.cell 2,h1.cell 3,h1.cell 4,h1.cell 5,h1.cell 6,h1.cell 7,h1.cell 8,h1.cell 9,h1.cell 10,h1.cell 11,h1.cell 12,h1.cell 13,h1.cell 14,h1.cell 15⟩
 have d0:W0.cell? ⟨p,0,none⟩=some (.pointer (some ⟨j,0,none⟩)):=(h1.fr hf0 id).cell 0;clear h1 h2 hj hg hl hn hy h4 h5 h6 h7 h8;unfold eP at hW0;obtain ⟨HCP,HW0,HG0,HF0,HB0,bS⟩:=lG hcp hW0 hg0 hf0 hb0 hfin;clear hcp hW0 hg0 hf0 hb0 hfin
 go_in
 go_upto_region 2 with fail
 rw [←HG0.out,←HW0.out]
 go_wp2_with fail
 refine (HCP.out _ HF0.out).mono ?_;rintro e w2 ⟨j',d',F2,rfl,a2,n2,f2⟩;have b2:=HB0.out.fr f2 id;have M2:=O (bS.out _ _ _ _ a2 n2 f2);have k0:w2.cell? ⟨g,0,none⟩=some (.pointer (some ⟨j,0,none⟩)):=b2.cell 0;have kf:=b2.frozen 0;clear a2 n2 f2 b2 c0 c1 c2 c3 c4 c5 c6 c7 c8 c9 c10 c11 c12 c13 c14 c15 d0
 go_wp2_with fail
 go_ret
 exact M2.out
end
end Go.Proofs.YtjnfmfmglehmbaaGreat
