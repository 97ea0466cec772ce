/-
  The program's replica: the vote message of a candidate, the append message of a leader.
-/
import Derived.Test.YtjnfmfmglehmbaaGreatQ17
namespace Go.Proofs.YtjnfmfmglehmbaaGreat
open Go.ChangeShapes Go.WideShapes Go.ChangeAt Go.RowKit
set_option linter.unusedVariables false
set_option maxRecDepth 100000
set_option maxHeartbeats 4000000
section
structure yF (V:World) (g3 g4:Nat) (id dst t:Int) (x:Value):Prop where
 b3:Blk V g3 TMs #[.int .i64 0,.int .i64 0,.int .i64 0,.int .i64 0,.int .i64 0,.int .i64 0,.int .i64 0,.bool false,.slice none 0 0]
 b4:Blk V g4 TMs #[.int .i64 1,.int .i64 id,.int .i64 dst,.int .i64 t,x,.int .i64 0,.int .i64 0,.bool false,.slice none 0 0]
 ne:g3≠g4
section
variable {V V' :World}{g3 g4:Nat}{id dst t:Int}{x:Value}
theorem yF.drew (h:yF V g3 g4 id dst t x):yF V.drew g3 g4 id dst t x:=⟨h.b3,h.b4,h.ne⟩
theorem yF.fr (h:yF V g3 g4 id dst t x)(hf:Fr No V V'):yF V' g3 g4 id dst t x:=⟨h.b3.fr hf (fun h=>h),h.b4.fr hf (fun h=>h),h.ne⟩
theorem yF.zS (h:yF V g3 g4 id dst t x)(u:Value):yF (V.setCell ⟨g4,4,none⟩ u) g3 g4 id dst t u:=⟨h.b3.aF h.ne _,(h.b4.aU 4 u).conv rfl,h.ne⟩
theorem yF.lT (h:yF V g3 g4 id dst t x):(V.cell? ⟨g4,0,none⟩=some (.int .i64 1)∧V.cell? ⟨g4,1,none⟩=some (.int .i64 id)∧V.cell? ⟨g4,2,none⟩=some (.int .i64 dst)∧V.cell? ⟨g4,3,none⟩=some (.int .i64 t)∧V.cell? ⟨g4,4,none⟩=some (x)∧V.cell? ⟨g4,5,none⟩=some (.int .i64 0)∧V.cell? ⟨g4,6,none⟩=some (.int .i64 0)∧V.cell? ⟨g4,7,none⟩=some (.bool false)∧V.cell? ⟨g4,8,none⟩=some (.slice none 0 0))∧V.frozen? ⟨g4,4,none⟩=false∧V.frozen? ⟨g4,5,none⟩=false:=
 ⟨⟨h.b4.cell 0,h.b4.cell 1,h.b4.cell 2,h.b4.cell 3,h.b4.cell 4,h.b4.cell 5,h.b4.cell 6,h.b4.cell 7,h.b4.cell 8⟩,h.b4.frozen 4,h.b4.frozen 5⟩
theorem yF.cells3 (h:yF V g3 g4 id dst t x):(V.cell? ⟨g3,0,none⟩=some (.int .i64 0)∧V.cell? ⟨g3,1,none⟩=some (.int .i64 0)∧V.cell? ⟨g3,2,none⟩=some (.int .i64 0)∧V.cell? ⟨g3,3,none⟩=some (.int .i64 0)∧V.cell? ⟨g3,4,none⟩=some (.int .i64 0)∧V.cell? ⟨g3,5,none⟩=some (.int .i64 0)∧V.cell? ⟨g3,6,none⟩=some (.int .i64 0)∧V.cell? ⟨g3,7,none⟩=some (.bool false)∧V.cell? ⟨g3,8,none⟩=some (.slice none 0 0))∧V.frozen? ⟨g3,0,none⟩=false∧V.frozen? ⟨g3,1,none⟩=false∧V.frozen? ⟨g3,2,none⟩=false∧V.frozen? ⟨g3,3,none⟩=false∧V.frozen? ⟨g3,4,none⟩=false∧V.frozen? ⟨g3,5,none⟩=false∧V.frozen? ⟨g3,6,none⟩=false∧V.frozen? ⟨g3,7,none⟩=false∧V.frozen? ⟨g3,8,none⟩=false:=
 ⟨⟨h.b3.cell 0,h.b3.cell 1,h.b3.cell 2,h.b3.cell 3,h.b3.cell 4,h.b3.cell 5,h.b3.cell 6,h.b3.cell 7,h.b3.cell 8⟩,h.b3.frozen 0,h.b3.frozen 1,h.b3.frozen 2,h.b3.frozen 3,h.b3.frozen 4,h.b3.frozen 5,h.b3.frozen 6,h.b3.frozen 7,h.b3.frozen 8⟩
end
section
variable {w w' :World}{F:Nat→Prop}{p:Nat}{r:Rs}{s:Js}{n:Nat}
theorem aq5 (h:RAt w F p r n)(dst:Int)(b:Nat)(hb:w.cell? ⟨b,0,none⟩=some (.pointer (some ⟨p,0,none⟩))):Calls Tryz.prog 83 #[.int .i64 dst,.pointer (some ⟨b,0,none⟩)] w fun e w' =>e= .returned (Ms.v ⟨1,r.id,dst,r.js.term,r.js.log.length,lastT r.js.log,0,false,[]⟩ (.slice none 0 0))∧Fr No w w' :=by
 have hm:=fun W (hW:Fr No w W)=>mP (h.ak hW) 1 dst;have hLen:=fun W (hW:Fr No w W)=>qo (h.ak hW).rj;have hLT:=fun W (hW:Fr No w W)=>sN (h.ak hW).rj h.ok.log.few;have hbl:=mD hb;have hB:=fun W (hW:Fr No w W)=>(hW.cell (p:=⟨b,0,none⟩) hbl (fun h=>h)).trans hb;generalize r.js.term=t at*;generalize (r.id:Int)=id at*;generalize lastT r.js.log=lt at*;generalize r.js.log.length=ll at*;clear h;have hb1:=hB _ (aj w (.cells #[.int .i64 0,.int .i64 0,.int .i64 0,.int .i64 0,.int .i64 0,.int .i64 0,.int .i64 0,.bool false,.slice none 0 0] TMs));obtain ⟨HM,HLEN,HLT,HB⟩:=fK hm hLen hLT hB;clear hm hLen hLT hB
 go_in
 go_wp2_with fail
 refine (HM.out _ (aj _ _)).mono ?_;rintro e w1 ⟨rfl,f1⟩;obtain ⟨F1,B1⟩:=aO ((aj w (.cells #[.int .i64 0,.int .i64 0,.int .i64 0,.int .i64 0,.int .i64 0,.int .i64 0,.int .i64 0,.bool false,.slice none 0 0] TMs)).ah f1) ((Blk.new w TMs #[.int .i64 0,.int .i64 0,.int .i64 0,.int .i64 0,.int .i64 0,.int .i64 0,.int .i64 0,.bool false,.slice none 0 0]).fr f1 (fun h=>h));clear f1 hb1
 go_wp2_with fail
 obtain ⟨W0,hW0⟩:∃W0,W0=w1.alloc (.cells #[.int .i64 1,.int .i64 id,.int .i64 dst,.int .i64 t,.int .i64 0,.int .i64 0,.int .i64 0,.bool false,.slice none 0 0] TMs):=⟨_,rfl⟩;rw [←hW0];have hF:Fr No w W0:=by rw [hW0];exact F1.out.alloc _
 have q3:Blk W0 w.heap.size TMs #[.int .i64 0,.int .i64 0,.int .i64 0,.int .i64 0,.int .i64 0,.int .i64 0,.int .i64 0,.bool false,.slice none 0 0]:=by rw [hW0];exact B1.out.dH _
 have q4:Blk W0 w1.heap.size TMs #[.int .i64 1,.int .i64 id,.int .i64 dst,.int .i64 t,.int .i64 0,.int .i64 0,.int .i64 0,.bool false,.slice none 0 0]:=by rw [hW0];exact Blk.new _ _ _
 have hs1:=F1.out.size;have hl3:=B1.out.lt;obtain ⟨g4,hg4⟩:∃g,g=w1.heap.size:=⟨_,rfl⟩;obtain ⟨g3,hg3⟩:∃g,g=w.heap.size:=⟨_,rfl⟩;rw [←hg4] at q4;rw [←hg3] at q3;rw [←hg4,←hg3];have n4:w.heap.size≤g4:=by omega
 have n3:w.heap.size≤g3:=by omega
 have n34:g3≠g4:=by omega
 have qq:yF W0 g3 g4 id dst t (.int .i64 0):=⟨q3,q4,n34⟩;clear hW0 hg4 hg3 hl3 hs1 F1 B1 q3 q4;obtain ⟨⟨x0,x1,x2,x3,x4,x5,x6,x7,x8⟩,y4,y5⟩:=qq.lT;have hb0:=HB.out _ hF;have QQ:=O qq;clear qq
 go_region_held3 (fun V=>V.cell? ⟨b,0,none⟩=some (.pointer (some ⟨p,0,none⟩))) (exact HB.out _ (by repeat (with_reducible first|assumption|exact Fr.refl _ _|refine Fr.alloc ?_ _|refine Fr.drew ?_|refine Fr.drewN ?_ _|refine Fr.setCell ?_ (.inr (by assumption)) _))) (first
  |(go_at_call 56;refine (HLEN.out _ (by repeat (with_reducible first|assumption|exact Fr.refl _ _|refine Fr.alloc ?_ _|refine Fr.drew ?_|refine Fr.drewN ?_ _|refine Fr.setCell ?_ (.inr (by assumption)) _))).mono ?_;rintro e w5 ⟨rfl,rfl⟩)
  |(go_at_call 85;refine (HLT.out _ (by repeat (with_reducible first|assumption|exact Fr.refl _ _|refine Fr.alloc ?_ _|refine Fr.drew ?_|refine Fr.drewN ?_ _|refine Fr.setCell ?_ (.inr (by assumption)) _))).mono ?_;rintro e w2 ⟨rfl,f2⟩;have Q2:Fr No w w2:=Fr.ah (by repeat (with_reducible first|assumption|exact Fr.refl _ _|refine Fr.alloc ?_ _|refine Fr.drew ?_|refine Fr.drewN ?_ _|refine Fr.setCell ?_ (.inr (by assumption)) _)) f2;have k2:=yF.fr (by first|exact QQ.out.drew|exact QQ.out|exact QQ.out.drew.zS _|exact QQ.out.zS _) f2;obtain ⟨⟨x0,x1,x2,x3,x4,x5,x6,x7,x8⟩,y4,y5⟩:=k2.lT;obtain ⟨⟨z0,z1,z2,z3,z4,z5,z6,z7,z8⟩,v0,v1,v2,v3,v4,v5,v6,v7,v8⟩:=k2.cells3;have K2:=O k2;clear k2 f2))
 all_goals
  go_wp2_with fail
  refine bodyPost_ret (v:=Ms.v ⟨1,id,dst,t,ll,lt,0,false,[]⟩ (.slice none 0 0)) (og ⟨1,id,dst,t,ll,lt,0,false,[]⟩ _ g3 _ _ (qz ⟨1,id,dst,t,ll,lt,0,false,[]⟩ (.slice none 0 0) ?_) rfl) rfl ⟨rfl,kU ⟨1,id,dst,t,ll,lt,0,false,[]⟩ (.slice none 0 0) ?_ n3⟩
  ·first|exact K2.out.b3|exact K2.out.b3.aF n34 _|exact (K2.out.b3.aF n34 _).aF n34 _
  ·first|exact Q2|exact Q2.setCell (.inr n4) _|exact (Q2.setCell (p:=⟨g4,_,none⟩) (.inr n4) _).setCell (.inr n4) _
end
end
section
structure MAt (V:World) (g3 g4:Nat) (m:Ms) (v:Value):Prop where
 b3:Blk V g3 TMs #[.int .i64 0,.int .i64 0,.int .i64 0,.int .i64 0,.int .i64 0,.int .i64 0,.int .i64 0,.bool false,.slice none 0 0]
 b4:Blk V g4 TMs #[.int .i64 m.kind,.int .i64 m.from_,.int .i64 m.to_,.int .i64 m.term,.int .i64 m.index,.int .i64 m.prev,.int .i64 m.commit,.bool m.ok,v]
 ne:g3≠g4
section
variable {V V' :World}{g3 g4:Nat}{m:Ms}{v:Value}
theorem MAt.drew (h:MAt V g3 g4 m v):MAt V.drew g3 g4 m v:=⟨h.b3,h.b4,h.ne⟩
theorem MAt.fr (h:MAt V g3 g4 m v)(hf:Fr No V V'):MAt V' g3 g4 m v:=⟨h.b3.fr hf id,h.b4.fr hf id,h.ne⟩
theorem MAt.zS (h:MAt V g3 g4 m v)(i:Int):MAt (V.setCell ⟨g4,4,none⟩ (.int .i64 i)) g3 g4 {m with index:=i} v:=⟨h.b3.aF h.ne _,(h.b4.aU 4 _).conv rfl,h.ne⟩
theorem MAt.aa8 (h:MAt V g3 g4 m v)(i:Int):MAt (V.setCell ⟨g4,5,none⟩ (.int .i64 i)) g3 g4 {m with prev:=i} v:=⟨h.b3.aF h.ne _,(h.b4.aU 5 _).conv rfl,h.ne⟩
theorem MAt.abv (h:MAt V g3 g4 m v)(i:Int):MAt (V.setCell ⟨g4,6,none⟩ (.int .i64 i)) g3 g4 {m with commit:=i} v:=⟨h.b3.aF h.ne _,(h.b4.aU 6 _).conv rfl,h.ne⟩
theorem MAt.aj7 (h:MAt V g3 g4 m v)(u:Value):MAt (V.setCell ⟨g4,8,none⟩ u) g3 g4 m u:=⟨h.b3.aF h.ne _,(h.b4.aU 8 _).conv rfl,h.ne⟩
theorem MAt.lT (h:MAt V g3 g4 m v):(V.cell? ⟨g4,0,none⟩=some (.int .i64 m.kind)∧V.cell? ⟨g4,1,none⟩=some (.int .i64 m.from_)∧V.cell? ⟨g4,2,none⟩=some (.int .i64 m.to_)∧V.cell? ⟨g4,3,none⟩=some (.int .i64 m.term)∧V.cell? ⟨g4,4,none⟩=some (.int .i64 m.index)∧V.cell? ⟨g4,5,none⟩=some (.int .i64 m.prev)∧V.cell? ⟨g4,6,none⟩=some (.int .i64 m.commit)∧V.cell? ⟨g4,7,none⟩=some (.bool m.ok)∧V.cell? ⟨g4,8,none⟩=some (v))∧V.frozen? ⟨g4,4,none⟩=false∧V.frozen? ⟨g4,5,none⟩=false∧V.frozen? ⟨g4,6,none⟩=false∧V.frozen? ⟨g4,7,none⟩=false∧V.frozen? ⟨g4,8,none⟩=false:=
 ⟨⟨h.b4.cell 0,h.b4.cell 1,h.b4.cell 2,h.b4.cell 3,h.b4.cell 4,h.b4.cell 5,h.b4.cell 6,h.b4.cell 7,h.b4.cell 8⟩,h.b4.frozen 4,h.b4.frozen 5,h.b4.frozen 6,h.b4.frozen 7,h.b4.frozen 8⟩
theorem MAt.cells3 (h:MAt V g3 g4 m v):(V.cell? ⟨g3,0,none⟩=some (.int .i64 0)∧V.cell? ⟨g3,1,none⟩=some (.int .i64 0)∧V.cell? ⟨g3,2,none⟩=some (.int .i64 0)∧V.cell? ⟨g3,3,none⟩=some (.int .i64 0)∧V.cell? ⟨g3,4,none⟩=some (.int .i64 0)∧V.cell? ⟨g3,5,none⟩=some (.int .i64 0)∧V.cell? ⟨g3,6,none⟩=some (.int .i64 0)∧V.cell? ⟨g3,7,none⟩=some (.bool false)∧V.cell? ⟨g3,8,none⟩=some (.slice none 0 0))∧V.frozen? ⟨g3,0,none⟩=false∧V.frozen? ⟨g3,1,none⟩=false∧V.frozen? ⟨g3,2,none⟩=false∧V.frozen? ⟨g3,3,none⟩=false∧V.frozen? ⟨g3,4,none⟩=false∧V.frozen? ⟨g3,5,none⟩=false∧V.frozen? ⟨g3,6,none⟩=false∧V.frozen? ⟨g3,7,none⟩=false∧V.frozen? ⟨g3,8,none⟩=false:=
 ⟨⟨h.b3.cell 0,h.b3.cell 1,h.b3.cell 2,h.b3.cell 3,h.b3.cell 4,h.b3.cell 5,h.b3.cell 6,h.b3.cell 7,h.b3.cell 8⟩,h.b3.frozen 0,h.b3.frozen 1,h.b3.frozen 2,h.b3.frozen 3,h.b3.frozen 4,h.b3.frozen 5,h.b3.frozen 6,h.b3.frozen 7,h.b3.frozen 8⟩
end
def yG (w:World)(m:Ms)(e:Ending)(w' :World):Prop:=∃v,e= .returned (m.v v)∧Ent w' (fun b=>w.heap.size≤b) v m.es∧Fr No w w'
theorem aml.at_ {r:Rs}{bits:Int}{nx mt:Nat→Int}(h:aml r bits nx mt)(hr:r.role=3){i:Nat}(hi:i<r.n):nx i=r.next i∧mt i=r.cO i:=h.2 hr i hi
theorem iy {w:World}{p j:Nat}{r:Rs}{bits:Int}{nx mt:Nat→Int}(h:Blk w p abb (eP j r bits nx mt)){i:Nat}(hi:i<5):w.cell? ⟨p,6+i,none⟩=some (.int .i64 (nx i))∧w.cell? ⟨p,11+i,none⟩=some (.int .i64 (mt i)):=by
 rw [h.cell,h.cell]
 match i,hi with
 |0,_=>exact ⟨rfl,rfl⟩
 |1,_=>exact ⟨rfl,rfl⟩
 |2,_=>exact ⟨rfl,rfl⟩
 |3,_=>exact ⟨rfl,rfl⟩
 |4,_=>exact ⟨rfl,rfl⟩
section
variable {w w' :World}{F:Nat→Prop}{p:Nat}{r:Rs}{s:Js}{n:Nat}
theorem qp (h:RAt w F p r n)(hr:r.role=3)(dst:Nat)(hd:dst<r.n):Calls Tryz.prog 89 #[.pointer (some ⟨p,0,none⟩),.int .i64 (dst:Int)] w (yG w (r.app dst)):=by
 have hm:=fun W (hW:Fr No w W)=>mP (h.ak hW) 3 dst;have hok:=h.ok;have lK:=hok.log.few;have hnx:=hok.nxt hr dst;have h5:=hok.five;have alr:=fun W (hW:Fr No w W)=>ahd (h.ak hW).rj lK (r.next dst) hnx;obtain ⟨j,Fj,bits,nx,mt,h1,h2,h3,h4,-,-,h7,-⟩:=h;have hT:=fun W (hW:Fr No w W)=>mY (h3.ak hW) ((r.next dst:Int)-1);have hP:∀W,Fr No w W→W.cell? ⟨p,0,none⟩=some (.pointer (some ⟨j,0,none⟩))∧W.cell? ⟨p,4,none⟩=some (.int .i64 (r.commit:Int))∧W.cell? ⟨p,6+dst,none⟩=some (.int .i64 (r.next dst:Int)):=fun W hW=>let q:=h1.fr hW (fun h=>h);⟨q.cell 0,q.cell 4,by rw [←(h7.at_ hr hd).1];exact (iy q oy).1⟩;unfold Rs.app;have hpl:=h1.lt;generalize r.js.term=t at*;generalize (r.id:Int)=id at*;generalize aD r.js.log ((r.next dst:Int)-1)=pt at*;generalize r.next dst=nd at*;generalize (r.commit:Int)=cm at*;generalize hes:r.js.log.drop nd=es at*;have hb0:(0:Int)≤(dst:Int):=by omega
 have hb5:(dst:Int)<5:=by omega
 have hnd:(nd:Int)≤4096:=by omega
 clear h1 h2 h3 h4 h7 hok hr lK hnx h5 hd hes;obtain ⟨HM,HT,HP,ao9⟩:=fK hm hT hP alr;clear hm hT hP alr
 go_in
 go_wp2_with fail
 refine (HM.out _ (aj _ _)).mono ?_;rintro e w1 ⟨rfl,f1⟩;obtain ⟨F1,B1⟩:=aO ((aj w (.cells #[.int .i64 0,.int .i64 0,.int .i64 0,.int .i64 0,.int .i64 0,.int .i64 0,.int .i64 0,.bool false,.slice none 0 0] TMs)).ah f1) ((Blk.new w TMs #[.int .i64 0,.int .i64 0,.int .i64 0,.int .i64 0,.int .i64 0,.int .i64 0,.int .i64 0,.bool false,.slice none 0 0]).fr f1 (fun h=>h));clear f1;obtain ⟨p0,p4,p6⟩:=HP.out _ F1.out;obtain ⟨p0',p4',p6'⟩:=HP.out _ (F1.out.alloc (.cells #[.int .i64 3,.int .i64 id,.int .i64 dst,.int .i64 t,.int .i64 0,.int .i64 0,.int .i64 0,.bool false,.slice none 0 0] TMs))
 go_wp2_with fail
 obtain ⟨W0,hW0⟩:∃W0,W0=w1.alloc (.cells #[.int .i64 3,.int .i64 id,.int .i64 dst,.int .i64 t,.int .i64 nd,.int .i64 0,.int .i64 0,.bool false,.slice none 0 0] TMs):=⟨_,rfl⟩;rw [←hW0];have hF:Fr No w W0:=by rw [hW0];exact F1.out.alloc _
 have q3:Blk W0 w.heap.size TMs #[.int .i64 0,.int .i64 0,.int .i64 0,.int .i64 0,.int .i64 0,.int .i64 0,.int .i64 0,.bool false,.slice none 0 0]:=by rw [hW0];exact B1.out.dH _
 have q4:Blk W0 w1.heap.size TMs #[.int .i64 3,.int .i64 id,.int .i64 dst,.int .i64 t,.int .i64 nd,.int .i64 0,.int .i64 0,.bool false,.slice none 0 0]:=by rw [hW0];exact Blk.new _ _ _
 have hs1:=F1.out.size;have hl3:=B1.out.lt;obtain ⟨g4,hg4⟩:∃g,g=w1.heap.size:=⟨_,rfl⟩;obtain ⟨g3,hg3⟩:∃g,g=w.heap.size:=⟨_,rfl⟩;rw [←hg4] at q4;rw [←hg3] at q3;rw [←hg4,←hg3];have n4:w.heap.size≤g4:=by omega
 have n3:w.heap.size≤g3:=by omega
 have n34:g3≠g4:=by omega
 have qq:MAt W0 g3 g4 ⟨3,id,dst,t,nd,0,0,false,es⟩ (.slice none 0 0):=⟨q3,q4,n34⟩;clear hW0 hg4 hg3 hl3 hs1 F1 B1 q3 q4 p0 p4 p6 p0' p4' p6';obtain ⟨⟨x0,x1,x2,x3,x4,x5,x6,x7,x8⟩,y4,y5,y6,y7,y8⟩:=qq.lT;obtain ⟨p0,p4,p6⟩:=HP.out _ hF;have hwr:IntKind.i64.wrap ((nd:Int)-1)=(nd:Int)-1:=IntWalk.i64_in _ oy;have QQ:=O qq;clear qq
 go_region_held3 (fun V=>V.cell? ⟨p,0,none⟩=some (.pointer (some ⟨j,0,none⟩))∧V.cell? ⟨g4,4,none⟩=some (.int .i64 (nd:Int))) (first|(exact ⟨(HP.out _ (by repeat (with_reducible first|assumption|exact Fr.refl _ _|refine Fr.alloc ?_ _|refine Fr.drew ?_|refine Fr.drewN ?_ _|refine Fr.setCell ?_ (.inr (by assumption)) _))).1,(QQ.out.drew.lT).1.2.2.2.2.1⟩)|(exact ⟨(HP.out _ (by repeat (with_reducible first|assumption|exact Fr.refl _ _|refine Fr.alloc ?_ _|refine Fr.drew ?_|refine Fr.drewN ?_ _|refine Fr.setCell ?_ (.inr (by assumption)) _))).1,(QQ.out.lT).1.2.2.2.2.1⟩)|(exact ⟨(HP.out _ (by repeat (with_reducible first|assumption|exact Fr.refl _ _|refine Fr.alloc ?_ _|refine Fr.drew ?_|refine Fr.drewN ?_ _|refine Fr.setCell ?_ (.inr (by assumption)) _))).1,(K2.out.lT).1.2.2.2.2.1⟩)|(exact ⟨(HP.out _ (by repeat (with_reducible first|assumption|exact Fr.refl _ _|refine Fr.alloc ?_ _|refine Fr.drew ?_|refine Fr.drewN ?_ _|refine Fr.setCell ?_ (.inr (by assumption)) _))).1,((K2.out.aa8 _).lT).1.2.2.2.2.1⟩)) (first
  |(go_at_call 120;refine (HT.out _ (by repeat (with_reducible first|assumption|exact Fr.refl _ _|refine Fr.alloc ?_ _|refine Fr.drew ?_|refine Fr.drewN ?_ _|refine Fr.setCell ?_ (.inr (by assumption)) _))).mono ?_;rintro e w2 ⟨rfl,f2⟩;have Q2:Fr No w w2:=Fr.ah (by repeat (with_reducible first|assumption|exact Fr.refl _ _|refine Fr.alloc ?_ _|refine Fr.drew ?_|refine Fr.drewN ?_ _|refine Fr.setCell ?_ (.inr (by assumption)) _)) f2;have k2:=MAt.fr (by first|exact QQ.out.drew|exact QQ.out) f2;obtain ⟨⟨x0,x1,x2,x3,x4,x5,x6,x7,x8⟩,y4,y5,y6,y7,y8⟩:=k2.lT;obtain ⟨p0,p4,p6⟩:=HP.out _ Q2;have K2:=O k2;clear k2 f2))
 clear hwr
 go_wp2_with fail
 refine (ao9.out _ (by repeat (with_reducible first|assumption|exact Fr.refl _ _|refine Fr.alloc ?_ _|refine Fr.drew ?_|refine Fr.drewN ?_ _|refine Fr.setCell ?_ (.inr (by assumption)) _))).mono ?_;rintro e w3 ⟨A,c,rfl,o3,f3⟩;have Q3:Fr No w w3:=Fr.ah (by repeat (with_reducible first|assumption|exact Fr.refl _ _|refine Fr.alloc ?_ _|refine Fr.drew ?_|refine Fr.drewN ?_ _|refine Fr.setCell ?_ (.inr (by assumption)) _)) f3;have k3:=MAt.fr ((K2.out.aa8 pt).abv cm) f3;obtain ⟨⟨x0,x1,x2,x3,x4,x5,x6,x7,x8⟩,y4,y5,y6,y7,y8⟩:=k3.lT;obtain ⟨⟨z0,z1,z2,z3,z4,z5,z6,z7,z8⟩,v0,v1,v2,v3,v4,v5,v6,v7,v8⟩:=k3.cells3;have hs3:=Q2.size;have hl3:=K2.out.b3.lt;have hl4:=K2.out.b4.lt;obtain ⟨E3,K3⟩:=aO (Ent.iW (o3.mono (G:=fun b=>w2.heap.size≤b) fun i hi=>by simpa using hi)) k3;clear k3 f3 o3
 go_wp2_with fail
 refine bodyPost_ret (v:=Ms.v ⟨3,id,dst,t,nd,pt,cm,false,es⟩ (.slice A es.length c)) (oh ⟨3,id,dst,t,nd,pt,cm,false,es⟩ _ g3 _ _ (qz ⟨3,id,dst,t,nd,pt,cm,false,es⟩ (.slice A es.length c) (K3.out.aj7 _).b3) rfl) rfl ⟨_,rfl,?_,kU ⟨3,id,dst,t,nd,pt,cm,false,es⟩ (.slice A es.length c) (Q3.setCell (p:=⟨g4,8,none⟩) (.inr n4) _) n3⟩;have hf:Fr (fun i=>i=g3∨i=g4) w3 (w3.setCell ⟨g4,8,none⟩ (.slice A es.length c)):=(Fr.refl _ _).setCell (p:=⟨g4,8,none⟩) (.inl (.inr rfl)) _;exact (E3.out.fr (mo ⟨3,id,dst,t,nd,pt,cm,false,es⟩ (.slice A es.length c) hf (.inl rfl)) fun i hi hh=>by have hi2:w2.heap.size≤i:=hi;omega).mono fun i hi=>by have hi2:w2.heap.size≤i:=hi;omega
end
end
section
def abu (f:Nat→Int)(i:Nat)(x:Int):Nat→Int:=fun k=>if k=i then x else f k
theorem oZ {w:World}{p j:Nat}{r:Rs}{bits:Int}{nx mt:Nat→Int}(h:Blk w p abb (eP j r bits nx mt)){i:Nat}(hi:i<5)(x:Int):Blk (w.setCell ⟨p,6+i,none⟩ (.int .i64 x)) p abb (eP j r bits (abu nx i x) mt):=by
 refine (h.aU (6+i) (.int .i64 x)).conv ?_
 match i,hi with
 |0,_=>rfl
 |1,_=>rfl
 |2,_=>rfl
 |3,_=>rfl
 |4,_=>rfl
theorem jT {w:World}{p j:Nat}{r:Rs}{bits:Int}{nx mt:Nat→Int}(h:Blk w p abb (eP j r bits nx mt)){i:Nat}(hi:i<5)(x:Int):Blk (w.setCell ⟨p,11+i,none⟩ (.int .i64 x)) p abb (eP j r bits nx (abu mt i x)):=by
 refine (h.aU (11+i) (.int .i64 x)).conv ?_
 match i,hi with
 |0,_=>rfl
 |1,_=>rfl
 |2,_=>rfl
 |3,_=>rfl
 |4,_=>rfl
section
variable {w w' :World}{F:Nat→Prop}{p:Nat}{r:Rs}{s:Js}{n:Nat}
def nu (w:World)(p j:Nat)(r:Rs)(bits ll:Int)(k:Nat)(W:World):Prop:=
 ∃nx mt:Nat→Int,Blk W p abb (eP j {r with role:=3} bits nx mt)∧(∀i,i<k→nx i=ll∧mt i=0)∧Fr (fun i=>i=p) w W
theorem nu.drew {w W:World}{p j:Nat}{r:Rs}{bits ll:Int}{k:Nat}(h:nu w p j r bits ll k W):nu w p j r bits ll k W.drew:=by
 obtain ⟨nx,mt,h1,h2,h3⟩:=h;exact ⟨nx,mt,h1,h2,h3.drew⟩
theorem nu.next {w W W' :World}{p j:Nat}{r:Rs}{bits ll:Int}{k:Nat}{nx mt:Nat→Int}(hb:Blk W p abb (eP j {r with role:=3} bits nx mt))(hk:∀i,i<k→nx i=ll∧mt i=0)(hf:Fr (fun i=>i=p) w W)(h5:k<5)
  (hW:W' =(W.setCell ⟨p,6+k,none⟩ (.int .i64 ll)).setCell ⟨p,11+k,none⟩ (.int .i64 0)∨W' =(W.setCell ⟨p,11+k,none⟩ (.int .i64 0)).setCell ⟨p,6+k,none⟩ (.int .i64 ll)):nu w p j r bits ll (k+1) W' :=by
 have hf' :Fr (fun i=>i=p) w W' :=by
  rcases hW with rfl|rfl
  ·exact (hf.setCell (p:=⟨p,6+k,none⟩) (.inl rfl) _).setCell (p:=⟨p,11+k,none⟩) (.inl rfl) _
  ·exact (hf.setCell (p:=⟨p,11+k,none⟩) (.inl rfl) _).setCell (p:=⟨p,6+k,none⟩) (.inl rfl) _
 refine ⟨abu nx k ll,abu mt k 0,?_,fun i hi=> ?_,hf'⟩
 ·rcases hW with rfl|rfl
  ·exact jT (oZ hb h5 ll) h5 0
  ·exact oZ (jT hb h5 0) h5 ll
 ·simp only [abu]
  by_cases e:i=k
  ·simp [e]
  ·rw [if_neg e,if_neg e]
   exact hk i oy
theorem ahc (h:RAt w F p r n):Calls Tryz.prog 81 #[.pointer (some ⟨p,0,none⟩)] w fun e w' =>e= .returned (.tuple #[])∧RTo w F p r.lead n w' :=by
 have hok:=h.ok;have hid:=hok.idn;have h5n:=hok.five;obtain ⟨j,Fj,bits,nx,mt,h1,h2,h3,h4,h5,h6,h7,-⟩:=h;have hfin:=fun W (hl:nu w p j r bits r.js.log.length r.n W)=>(let ⟨nx',mt',k1,k2,k3⟩:=hl;RAt.cells (r:=r) (r' :=r.lead) h2 h3 h4 h5 h6 k3 (nx' :=nx') (mt' :=mt') k1 rfl ⟨fun hh=>by simp [Rs.lead] at hh,fun _ i hi=>k2 i hi⟩ hok.lead:RTo w F p r.lead n W);have hLen:=fun W (hf:Fr (fun i=>i=p) w W) (hc:W.cell? ⟨p,0,none⟩=some (.pointer (some ⟨j,0,none⟩)))=>qo (w:=W) (p:=p) (s:=r.js) (n:=n) ⟨j,Fj,hc,h3.fr hf fun i hi he=>h5 (he▸hi),h5⟩;have c3:w.cell? ⟨p,3,none⟩=some (.int .i64 r.role):=h1.cell 3;have f3:=h1.frozen 3;have b0:nu w p j r bits r.js.log.length 0 (w.setCell ⟨p,3,none⟩ (.int .i64 3)):=⟨nx,mt,(h1.aU 3 _).conv rfl,fun i hi=>by omega,(Fr.refl (fun i=>i=p) w).setCell (p:=⟨p,3,none⟩) (.inl rfl) _⟩;have d2:(w.setCell ⟨p,3,none⟩ (.int .i64 3)).cell? ⟨p,2,none⟩=some (.int .i64 (r.n:Int)):=(h1.aU 3 (.int .i64 3)).cell 2;generalize r.js.log.length=ll at*;clear h1 h2 h3 h4 h5 h6 h7 hok;obtain ⟨bS,HLEN,B0⟩:=bP hfin hLen b0;clear hfin hLen b0
 go_in
 go_wp2_with fail
 go_loopw [10] (fun i wr=>∃k:Nat,k≤r.n∧i= .int .i64 k∧nu w p j r bits ll k wr) (fun i _=>r.n-(intOf i).toNat)
 case atStart=>exact ⟨0,Nat.zero_le _,rfl,B0.out⟩
 case round=>
  obtain ⟨k,hk,rfl,nx',mt',hb,hkk,hf⟩:=hrel;have hdone:=fun (he:k=r.n)=>bS.out wr (he▸⟨nx',mt',hb,hkk,hf⟩)
  by_cases hlt:k<r.n
  ·have hlt2:(k:Int)<(r.n:Int):=by omega
   have h5k:k<5:=by omega
   have i0:(0:Int)≤(k:Int):=by omega
   have i5:(k:Int)<5:=by omega
   have hnext:=fun W' hW=>nu.next (W' :=W') hb hkk hf h5k hW;have c0:wr.cell? ⟨p,0,none⟩=some (.pointer (some ⟨j,0,none⟩)):=hb.cell 0;obtain ⟨c6,c11⟩:=iy hb h5k;have f6:=hb.frozen (6+k);have f11:=hb.frozen (11+k);have c0' :(wr.setCell ⟨p,11+k,none⟩ (.int .i64 0)).cell? ⟨p,0,none⟩=some (.pointer (some ⟨j,0,none⟩)):=(jT hb h5k 0).cell 0;have n1:(6+k:Nat)≠11+k:=by omega
   have n2:(11+k:Nat)≠6+k:=by omega
   clear hdone hb hkk d2;have fJ:=O hnext;have C0' :=O c0';clear hnext c0'
   go_wp2_with fail
   go_region_held3 (fun V=>True) (exact trivial) (first
    |(go_at_call 56;refine (HLEN.out _ (by repeat (with_reducible first|assumption|exact Fr.refl _ _|refine Fr.alloc ?_ _|refine Fr.drew ?_|refine Fr.drewN ?_ _|refine Fr.setCell ?_ (.inl rfl) _)) (by first|exact c0|exact C0'.out)).mono ?_;rintro e w5 ⟨rfl,rfl⟩))
   all_goals
    go_wp2_with fail
    go_roundw
    case rel=>exact ⟨k+1,by omega,by go_num,(by first|exact (fJ.out _ (.inl rfl)).drew|exact (fJ.out _ (.inr rfl)).drew|exact fJ.out _ (.inl rfl)|exact fJ.out _ (.inr rfl))⟩
    case measure=>simp [intOf];omega
  ·have hge:k=r.n:=by omega
   have T:=O (hdone hge);have t1:decide (k<r.n)=false:=by simpa using hlt
   clear hb hkk hdone
   go_wp2_with fail
   go_end0
   exact ⟨rfl,T.out⟩
end
end
section
theorem jY:(Tryz.prog.info? TMs).map (fun i=>(i.zero,i.size,i.bytes))=some (some (.agg #[.int .i64 0,.int .i64 0,.int .i64 0,.int .i64 0,.int .i64 0,.int .i64 0,.int .i64 0,.bool false,.slice none 0 0]),9,88):=by kernel_rfl
theorem jB (id k:Nat):others id (k+1)=others id k++if k=id then [] else [k]:=by
 unfold others;rw [List.range_succ,List.filter_append]
 congr 1
 by_cases h:k=id<;>simp [h]
theorem iF (id k:Nat):(others id k).length≤k:=by
 have:=List.length_filter_le (fun x=>x != id) (List.range k)
 simpa [others] using this
def Lst (w0:World)(ms:List Ms)(v:Value)(w:World):Prop:=(∃A c,v= .slice A ms.length c)∧bF w (fun b=>w0.heap.size≤b) v ms∧Fr No w0 w
theorem Lst.ak {w0 w w' :World}{ms:List Ms}{v:Value}(h:Lst w0 ms v w)(hf:Fr No w w'):Lst w0 ms v w' :=⟨h.1,h.2.1.ak hf,h.2.2.ah hf⟩
theorem Lst.nil (w:World):Lst w [] (.slice none 0 0) w:=⟨⟨none,0,rfl⟩,bF.nil _ _,Fr.refl _ _⟩
theorem Lst.to {w0 w:World}{ms:List Ms}{v:Value}(h:Lst w0 ms v w):fF w0 ms (.returned v) w:=by
 obtain ⟨⟨A,c,rfl⟩,h2,h3⟩:=h;exact ⟨A,c,rfl,h2,h3⟩
section
variable {w w' :World}{F:Nat→Prop}{p:Nat}{r:Rs}{s:Js}{n:Nat}
theorem jX (h:RAt w F p r n)(hr:r.role=3):Calls Tryz.prog 82 #[.pointer (some ⟨p,0,none⟩),.func (.func 89) #[.pointer (some ⟨p,0,none⟩)] #[]] w (fF w ((others r.id r.n).map r.app)):=by
 obtain ⟨i1,hi1,hz0,hz1,hz2⟩:=info_parts jY;have hC:∀W,Fr No w W→∀k,k<r.n→Calls Tryz.prog 89 #[.pointer (some ⟨p,0,none⟩),.int .i64 (k:Int)] W (yG W (r.app k)):=fun W hW k hk=>qp (h.ak hW) hr k hk;have h5:=h.ok.five;obtain ⟨j,Fj,bits,nx,mt,h1,-⟩:=h;have hP:∀W,Fr No w W→W.cell? ⟨p,1,none⟩=some (.int .i64 (r.id:Int)):=fun W hW=>(h1.fr hW (fun h=>h)).cell 1;have c2:w.cell? ⟨p,2,none⟩=some (.int .i64 (r.n:Int)):=h1.cell 2;generalize r.id=id at*;generalize r.n=nn at*;clear h1;obtain ⟨HC,HP⟩:=aO hC hP;clear hC hP
 go_in
 go_wp2_with fail
 go_loopw [5,11] (fun v i wr=>∃k:Nat,k≤nn∧i= .int .i64 k∧Lst w ((others id k).map r.app) v wr) (fun _ i _=>nn-(intOf i).toNat)
 case atStart=>exact ⟨0,Nat.zero_le _,rfl,Lst.nil _⟩
 case round=>
  obtain ⟨k,hk,rfl,rM⟩:=hrel;have yC:=O rM;clear rM;have c1:=HP.out _ yC.out.2.2
  by_cases hlt:k<nn
  ·have hlt2:(k:Int)<(nn:Int):=by omega
   have hos:=jB id k
   by_cases hid:k=id
   ·subst hid
    rw [if_pos rfl,List.append_nil] at hos;have HOS:=O hos;clear hos
    go_wp2_with fail
    go_roundw
    case rel=>exact ⟨k+1,by omega,by go_num,by rw [HOS.out];exact yC.out⟩
    case measure=>simp [intOf];omega
   ·rw [if_neg hid] at hos
    have t1:((k:Int) == (id:Int))=false:=by simp;omega
    have t2:((k:Int) != (id:Int))=true:=by simp;omega
    have hol:=iF id k;obtain ⟨ms,hms⟩:∃ms,ms=(others id k).map r.app:=⟨_,rfl⟩;have hml:ms.length≤5:=by rw [hms,List.length_map];omega
    have hnx:(others id (k+1)).map r.app=ms++[r.app k]:=by rw [hos,List.map_append,hms];rfl
    have rM:=yC.out;rw [←hms] at rM;obtain ⟨⟨A,c,rfl⟩,⟨Gs,Ge,vs,q1,q2,q3⟩,q4⟩:=rM;have hsn:=fun (W2 W3:World) (v' x:Value) (m:Ms) (hf2:Fr No wr W2) hx (ha:bN W2 0 TMs 9 (.slice A ms.length c) ms.length (msV ms vs) (m.cells x) 1 v' W3)=>gB.snoc (G:=fun b=>w.heap.size≤b) (W:=wr) (m:=m) (x:=x) q1 (fun i hi=>by have:=q4.size;omega) q2 q3 hf2 hx ha;have hown:=fun W (hf:Fr No wr W)=>(q1.own.ak hf).1;have hG:=q2;have Q4:=O q4;clear q1 q2 q3 q4 yC hms hos;have hCk:=HC.out _ Q4.out k hlt;generalize r.app k=m at*;obtain ⟨HSN,HOWN,HG,HNX,HCK⟩:=jr hsn hown hG hnx hCk;clear hsn hown hG hnx hCk
    go_wp2_with fail
    refine HCK.out.mono ?_;rintro e w5 ⟨x,rfl,hx,f5⟩;obtain ⟨HX,F5⟩:=aO hx f5;clear hx f5
    go_wp2_with (at_builtin;refine bK _ rfl (.tmp 20) (.tmp 24) _ rfl 0 TMs i1 _ 9 88 Tryz.underlying63 hi1 hz0 hz1 hz2 rfl dcd (.slice A ms.length c) ms.length (msV ms vs) rfl (HOWN.out _ (F5.out.alloc _)) (w5.heap.size+1) (some ⟨w5.heap.size,0,none⟩) 1 1 (Ms.cells m x) rfl ?ka1 ?ka2 ?ka3 ?ka4 ?ka5 ?ka6 ?ka7 ?_)
    case ka1=>exact fun h=>by cases h
    case ka2=>exact Rd.new _ _ _ rfl
    case ka3=>rfl
    case ka4=>exact sS m HX.out
    case ka5=>unfold maxLen;omega
    case ka6=>omega
    case ka7=>exact Nat.zero_le _
    intro v1 w6 happ;obtain ⟨A',c',rfl,-⟩:=aC happ.1;obtain ⟨hl,f6⟩:=HSN.out _ _ _ x m (F5.out.alloc _) (HX.out.ak (aj _ _)) happ;have Q6:=O ((Q4.out.ah (F5.out.alloc _)).aA f6 HG.out);clear happ f6;have HL:=O hl;clear hl
    go_wp2_with fail
    go_roundw
    case rel=>exact ⟨k+1,by omega,by go_num,⟨A',c',by rw [HNX.out,List.length_append];rfl⟩,by rw [HNX.out];exact HL.out,Q6.out⟩
    case measure=>simp [intOf];omega
  ·have hge:k=nn:=by omega
   subst hge;have t1:decide ((k:Int)<(k:Int))=false:=by simp
   obtain ⟨A,c,hv⟩:=yC.out.1;have HL2:=O yC.out.to;clear yC;rw [hv] at*
   go_wp2_with fail
   go_ret
   exact HL2.out
theorem xL (h:RAt w F p r n)(b:Nat)(hb:w.cell? ⟨b,0,none⟩=some (.pointer (some ⟨p,0,none⟩))):Calls Tryz.prog 82 #[.pointer (some ⟨p,0,none⟩),.func (.func 83) #[] #[.pointer (some ⟨b,0,none⟩)]] w (fF w ((others r.id r.n).map r.cu)):=by
 obtain ⟨i1,hi1,hz0,hz1,hz2⟩:=info_parts jY;have hbl:=mD hb;have hbb:=fun W (hW:Fr No w W)=>(hW.cell (p:=⟨b,0,none⟩) hbl (fun h=>h)).trans hb;have hC:∀W,Fr No w W→∀k,k<r.n→Calls Tryz.prog 83 #[.int .i64 (k:Int),.pointer (some ⟨b,0,none⟩)] W (yG W (r.cu k)):=fun W hW k hk=>(aq5 (h.ak hW) (k:Int) b (hbb W hW)).mono fun e w' ⟨e1,e2⟩=>⟨_,e1,Ent.nil _ _,e2⟩;have h5:=h.ok.five;obtain ⟨j,Fj,bits,nx,mt,h1,-⟩:=h;have hP:∀W,Fr No w W→W.cell? ⟨p,1,none⟩=some (.int .i64 (r.id:Int)):=fun W hW=>(h1.fr hW (fun h=>h)).cell 1;have c2:w.cell? ⟨p,2,none⟩=some (.int .i64 (r.n:Int)):=h1.cell 2;generalize r.id=id at*;generalize r.n=nn at*;clear hb hbl hbb;clear h1;obtain ⟨HC,HP⟩:=aO hC hP;clear hC hP
 go_in
 go_wp2_with fail
 go_loopw [5,11] (fun v i wr=>∃k:Nat,k≤nn∧i= .int .i64 k∧Lst w ((others id k).map r.cu) v wr) (fun _ i _=>nn-(intOf i).toNat)
 case atStart=>exact ⟨0,Nat.zero_le _,rfl,Lst.nil _⟩
 case round=>
  obtain ⟨k,hk,rfl,rM⟩:=hrel;have yC:=O rM;clear rM;have c1:=HP.out _ yC.out.2.2
  by_cases hlt:k<nn
  ·have hlt2:(k:Int)<(nn:Int):=by omega
   have hos:=jB id k
   by_cases hid:k=id
   ·subst hid
    rw [if_pos rfl,List.append_nil] at hos;have HOS:=O hos;clear hos
    go_wp2_with fail
    go_roundw
    case rel=>exact ⟨k+1,by omega,by go_num,by rw [HOS.out];exact yC.out⟩
    case measure=>simp [intOf];omega
   ·rw [if_neg hid] at hos
    have t1:((k:Int) == (id:Int))=false:=by simp;omega
    have t2:((k:Int) != (id:Int))=true:=by simp;omega
    have hol:=iF id k;obtain ⟨ms,hms⟩:∃ms,ms=(others id k).map r.cu:=⟨_,rfl⟩;have hml:ms.length≤5:=by rw [hms,List.length_map];omega
    have hnx:(others id (k+1)).map r.cu=ms++[r.cu k]:=by rw [hos,List.map_append,hms];rfl
    have rM:=yC.out;rw [←hms] at rM;obtain ⟨⟨A,c,rfl⟩,⟨Gs,Ge,vs,q1,q2,q3⟩,q4⟩:=rM;have hsn:=fun (W2 W3:World) (v' x:Value) (m:Ms) (hf2:Fr No wr W2) hx (ha:bN W2 0 TMs 9 (.slice A ms.length c) ms.length (msV ms vs) (m.cells x) 1 v' W3)=>gB.snoc (G:=fun b=>w.heap.size≤b) (W:=wr) (m:=m) (x:=x) q1 (fun i hi=>by have:=q4.size;omega) q2 q3 hf2 hx ha;have hown:=fun W (hf:Fr No wr W)=>(q1.own.ak hf).1;have hG:=q2;have Q4:=O q4;clear q1 q2 q3 q4 yC hms hos;have hCk:=HC.out _ Q4.out k hlt;generalize r.cu k=m at*;obtain ⟨HSN,HOWN,HG,HNX,HCK⟩:=jr hsn hown hG hnx hCk;clear hsn hown hG hnx hCk
    go_wp2_with fail
    refine HCK.out.mono ?_;rintro e w5 ⟨x,rfl,hx,f5⟩;obtain ⟨HX,F5⟩:=aO hx f5;clear hx f5
    go_wp2_with (at_builtin;refine bK _ rfl (.tmp 20) (.tmp 24) _ rfl 0 TMs i1 _ 9 88 Tryz.underlying63 hi1 hz0 hz1 hz2 rfl dcd (.slice A ms.length c) ms.length (msV ms vs) rfl (HOWN.out _ (F5.out.alloc _)) (w5.heap.size+1) (some ⟨w5.heap.size,0,none⟩) 1 1 (Ms.cells m x) rfl ?kb1 ?kb2 ?kb3 ?kb4 ?kb5 ?kb6 ?kb7 ?_)
    case kb1=>exact fun h=>by cases h
    case kb2=>exact Rd.new _ _ _ rfl
    case kb3=>rfl
    case kb4=>exact sS m HX.out
    case kb5=>unfold maxLen;omega
    case kb6=>omega
    case kb7=>exact Nat.zero_le _
    intro v1 w6 happ;obtain ⟨A',c',rfl,-⟩:=aC happ.1;obtain ⟨hl,f6⟩:=HSN.out _ _ _ x m (F5.out.alloc _) (HX.out.ak (aj _ _)) happ;have Q6:=O ((Q4.out.ah (F5.out.alloc _)).aA f6 HG.out);clear happ f6;have HL:=O hl;clear hl
    go_wp2_with fail
    go_roundw
    case rel=>exact ⟨k+1,by omega,by go_num,⟨A',c',by rw [HNX.out,List.length_append];rfl⟩,by rw [HNX.out];exact HL.out,Q6.out⟩
    case measure=>simp [intOf];omega
  ·have hge:k=nn:=by omega
   subst hge;have t1:decide ((k:Int)<(k:Int))=false:=by simp
   obtain ⟨A,c,hv⟩:=yC.out.1;have HL2:=O yC.out.to;clear yC;rw [hv] at*
   go_wp2_with fail
   go_ret
   exact HL2.out
end
end
section
theorem agx (r:Rs){k:Nat}(h:k≤r.commit):r.lg k=r.commit:=by
 rcases k with _|k
 ·rfl
 ·simp only [Rs.lg];rw [if_pos h]
theorem aep (r:Rs){k:Nat}(h:r.commit<k+1)(hn:¬(aD r.js.log (k:Int)=r.js.term∧r.n<2*r.stores (k+1) r.n)):r.lg (k+1)=r.lg k:=by
 simp only [Rs.lg];rw [if_neg oy,if_neg hn]
theorem agw (r:Rs){k:Nat}(h:r.commit<k+1)(hn:aD r.js.log (k:Int)=r.js.term∧r.n<2*r.stores (k+1) r.n):r.lg (k+1)=k+1:=by
 simp only [Rs.lg];rw [if_neg oy,if_pos hn]
theorem abq (r:Rs)(m:Nat):∀k,r.stores m k≤k+1:=by
 intro k
 induction k with
 |zero=>exact Nat.le_refl _
 |succ k ih=>simp only [Rs.stores];split<;>omega
theorem agv (r:Rs)(h:r.lg r.js.log.length=r.commit):r.advance=r:=by unfold Rs.advance;rw [h]
section
variable {w w' :World}{F:Nat→Prop}{p:Nat}{r:Rs}{s:Js}{n:Nat}
theorem vR (h:RAt w F p r n)(hr:r.role=3):Calls Tryz.prog 88 #[.pointer (some ⟨p,0,none⟩)] w fun e w' =>e= .returned (.tuple #[])∧RTo w F p r.advance n w' :=by
 have hok:=h.ok;have hid:=hok.idn;have h5n:=hok.five;have lK:=hok.log.few;have hcom:=hok.com;have hLen:=qo h.rj;have qM:=fun W (hW:Fr No w W)=>iq (h.ak hW).rj;have hstill:=fun W (hf:Fr No w W) (he:r.lg r.js.log.length=r.commit)=>((agv r he).symm▸h.still hf:RTo w F p r.advance n W);obtain ⟨j,Fj,bits,nx,mt,h1,h2,h3,h4,h5,h6,h7,-⟩:=h;have hput:=fun W (k:Nat) (x:Int) (hx:x=k) (hf:Fr No w W) (he:r.lg r.js.log.length=k)=>RTo.after hf (RAt.cells (w:=W) (w' :=W.setCell ⟨p,4,none⟩ (.int .i64 x)) (r:=r) (r' :=r.advance) (n:=n) h2 (h3.ak hf) h4 h5 (fun i hi=>nll (h6 i hi) hf.size) (bits' :=bits) (nx' :=nx) (mt' :=mt) (dx _ ⟨p,4,none⟩ _) (((h1.fr hf id).aU 4 _).conv (by subst hx he;rfl)) rfl h7 hok.advance);have hT:=fun W (hW:Fr No w W) i=>mY (h3.ak hW) i;have hP:∀W,Fr No w W→W.cell? ⟨p,0,none⟩=some (.pointer (some ⟨j,0,none⟩))∧W.cell? ⟨p,1,none⟩=some (.int .i64 (r.id:Int))∧W.cell? ⟨p,2,none⟩=some (.int .i64 (r.n:Int))∧W.cell? ⟨p,4,none⟩=some (.int .i64 (r.commit:Int))∧W.frozen? ⟨p,4,none⟩=false:=fun W hW=>let q:=h1.fr hW id;⟨q.cell 0,q.cell 1,q.cell 2,q.cell 4,q.frozen 4⟩;have hM:∀W,Fr No w W→∀i,i<r.n→W.cell? ⟨p,11+i,none⟩=some (.int .i64 (r.cO i:Int)):=fun W hW i hi=>by rw [←(h7.at_ hr hi).2];exact (iy (h1.fr hW id) oy).2
 clear h1 h2 h3 h4 h5 h6 h7 hok;obtain ⟨HLEN,oP,bZ,wP,HT,HP,HM⟩:=nC hLen qM hstill hput hT hP hM;clear hLen qM hstill hput hT hP hM
 go_in
 go_wp2_with fail
 refine HLEN.out.mono ?_;rintro e w1 ⟨rfl,rfl⟩
 go_wp2_with fail
 go_loopw [2] (fun m wr=>∃k:Nat,k≤r.js.log.length∧m= .int .i64 k∧r.lg r.js.log.length=r.lg k∧Fr No w wr) (fun m _=>(intOf m).toNat)
 case atStart=>exact ⟨_,Nat.le_refl _,rfl,rfl,Fr.refl _ _⟩
 case round=>
  obtain ⟨k,hk,rfl,uS,hf⟩:=hrel;obtain ⟨c0,c1,c2,c4,f4⟩:=HP.out _ hf;obtain ⟨abg,HF⟩:=aO uS hf;clear uS hf
  by_cases hlt:r.commit<k
  ·obtain ⟨m,rfl⟩:∃m,k=m+1:=⟨k-1,by omega⟩
   have hlt2:(r.commit:Int)<((m+1:Nat):Int):=by omega
   have hT2:=HT.out _ HF.out (m:Int);have hmb:(m:Int)≤4096:=by omega
   by_cases ht:aD r.js.log (m:Int)=r.js.term
   ·have ali:=fun W hf (he:r.lg r.js.log.length=m+1)=>wP.out W (m+1) ((m:Int)+1) oy hf he
    have hyes:=fun hh=>abg.out.trans (agw r hlt ⟨ht,hh⟩);have hno:=fun (hh:¬r.n<2*r.stores (m+1) r.n)=>abg.out.trans (aep r hlt fun h=>hh h.2);rw [ht] at hT2;generalize r.js.term=tt at*;have t1:(tt == tt)=true:=by simp
    have t2:(tt != tt)=false:=by simp
    have hle:=fun k=>abq r (m+1) k;clear ht;obtain ⟨HNO,abd,HT2,aoy,HLE⟩:=jr hno hyes hT2 ali hle;clear hno hyes hT2 ali hle
    go_wp2_with fail
    refine HT2.out.mono ?_;rintro e w2 ⟨rfl,f2⟩;have F2:=O (HF.out.ah f2);clear f2
    go_wp2_with fail
    refine (oP.out _ F2.out).mono ?_;rintro e w3 ⟨rfl,rfl⟩;obtain ⟨c0,c1,c2,c4,f4⟩:=HP.out _ F2.out
    go_wp2_with fail
    go_loop [3,29] (fun c i=>∃k:Nat,k≤r.n∧i= .int .i64 k∧c= .int .i64 (r.stores (m+1) k:Int)) (fun _ i=>r.n-(intOf i).toNat)
    case atStart=>exact ⟨0,Nat.zero_le _,rfl,rfl⟩
    case round=>
     obtain ⟨k,hk,rfl,rfl⟩:=hrel;have hle1:=HLE.out k
     by_cases hkn:k<r.n
     ·have hkn2:(k:Int)<(r.n:Int):=by omega
      have i0:(0:Int)≤(k:Int):=by omega
      have i5:(k:Int)<5:=by omega
      have hst:r.stores (m+1) (k+1)=r.stores (m+1) k+if k≠r.id∧m+1≤r.cO k then 1 else 0:=rfl
      have c11:=HM.out _ F2.out k hkn
      by_cases hki:k=r.id
      ·have u1:((k:Int) == (r.id:Int))=true:=by simp;omega
       have u2:((k:Int) != (r.id:Int))=false:=by simp;omega
       rw [if_neg (fun hh=>hh.1 hki),Nat.add_zero] at hst;have HST:=O hst;clear hst
       go_wp2_with fail
       go_round
       case rel=>exact ⟨k+1,by omega,by go_num,by rw [HST.out];rfl⟩
       case measure=>simp [intOf];omega
      ·have u1:((k:Int) == (r.id:Int))=false:=by simp;omega
       have u2:((k:Int) != (r.id:Int))=true:=by simp;omega
       by_cases hmk:m+1≤r.cO k
       ·have v1:decide (((m:Int)+1)≤(r.cO k:Int))=true:=by simp;omega
        have v2:decide (m+1≤r.cO k)=true:=by simp;omega
        have v3:((m:Int)+1)≤(r.cO k:Int):=by omega
        rw [if_pos ⟨hki,hmk⟩] at hst;have HST:=O hst;clear hst
        go_wp2_with fail
        go_round
        case rel=>exact ⟨k+1,by omega,by go_num,by rw [HST.out];go_num⟩
        case measure=>simp [intOf];omega
       ·have v1:decide (((m:Int)+1)≤(r.cO k:Int))=false:=by simp;omega
        have v2:decide (m+1≤r.cO k)=false:=by simp;omega
        have v3:¬((m:Int)+1)≤(r.cO k:Int):=by omega
        rw [if_neg (fun hh=>hmk hh.2),Nat.add_zero] at hst;have HST:=O hst;clear hst
        go_wp2_with fail
        go_round
        case rel=>exact ⟨k+1,by omega,by go_num,by rw [HST.out];rfl⟩
        case measure=>simp [intOf];omega
     ·obtain rfl:k=r.n:=by omega
      have u1:decide (r.n<r.n)=false:=by simp
      by_cases ai4:r.n<2*r.stores (m+1) r.n
      ·have v1:(r.n:Int)<2*(r.stores (m+1) r.n:Int):=by omega
       have P:=O (aoy.out _ F2.out (abd.out ai4))
       go_wp2_with fail
       exact bodyPost_ret (v:= .tuple #[]) (by simp [results,Tryz.results88,go_sem]) rfl ⟨rfl,P.out⟩
      ·have v1:¬(r.n:Int)<2*(r.stores (m+1) r.n:Int):=by omega
       have NO:=O (HNO.out ai4)
       go_wp2_with fail
       go_roundw
       case rel=>exact ⟨m,by omega,by go_num,NO.out,F2.out⟩
       case measure=>simp [intOf]
   ·have hno:=abg.out.trans (aep r hlt (fun hh=>ht hh.1))
    generalize aD r.js.log (m:Int)=tm at*;generalize r.js.term=tt at*;have t1:(tm == tt)=false:=by simpa using ht
    have t2:(tm != tt)=true:=by simpa using ht
    clear ht;obtain ⟨HNO,HT2⟩:=aO hno hT2;clear hno hT2
    go_wp2_with fail
    refine HT2.out.mono ?_;rintro e w2 ⟨rfl,f2⟩;have F2:=O (HF.out.ah f2);clear f2
    go_wp2_with fail
    refine (oP.out _ F2.out).mono ?_;rintro e w3 ⟨rfl,rfl⟩
    go_wp2_with fail
    go_roundw
    case rel=>exact ⟨m,by omega,by go_num,HNO.out,F2.out⟩
    case measure=>simp [intOf]
  ·have hge:¬(r.commit:Int)<(k:Int):=by omega
   have E:=O (bZ.out _ HF.out (abg.out.trans (agx r oy)));have t1:decide (r.commit<k)=false:=by simpa using hlt
   go_wp2_with fail
   go_end0
   exact ⟨rfl,E.out⟩
end
end
end Go.Proofs.YtjnfmfmglehmbaaGreat
