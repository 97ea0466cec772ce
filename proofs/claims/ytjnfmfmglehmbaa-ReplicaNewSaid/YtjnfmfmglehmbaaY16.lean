/-
  The program's replica: the journal's turns, messages that carry more, a new replica. The program's replica: the vote message of a candidate, the append message of a leader. The program's replica: the append message of a leader. The program's replica: to lead, messages to all others. The program's replica: messages to all others. The program's replica: to advance. The program's replica: campaigns, proposals, beats, crashes. The program's replica: proposals. The program's replica: which messages are proper. The reference's journal in memory; the contracts of its readers, of setTerm. The contracts of cut, put, SetTerm, Cut and Sync of the reference's journal. The contracts of Crash and Open of the reference's journal. The reference's journals, without their bytes. Which replicas and which quorums there are.
-/
import Derived.Test.YtjnfmfmglehmbaaY15
import Derived.Test.YtjnfmfmglehmbaaY07
import Derived.Laws.BitsAllLaws
import Derived.Test.YtjnfmfmglehmbaaY10
import Derived.Test.YtjnfmfmglehmbaaY03
import Derived.Deep.RegionHeld3
import Derived.Test.YtjnfmfmglehmbaaY00
import Derived.Test.YtjnfmfmglehmbaaY05
import Derived.Deep.DeepCutAuto
import Derived.IntWalk
import Derived.Deep.RegionLaw
import Derived.Test.YtjnfmfmglehmbaaY01
import Derived.Deep.QuietTactic
namespace Go.Proofs.Ytjnfmfmglehmbaa
open Go.ChangeShapes Go.WideShapes Go.ChangeAt Go.RowKit
set_option linter.unusedVariables false
set_option maxRecDepth 100000
set_option maxHeartbeats 16000000
section
theorem JGTo.then {y:Bool} {w w1 w' :World} {F F1:Nat→Prop} {j:Nat} {s' :Js} {n:Nat} (hf:Fr F w w1) (hi:∀i,F1 i→F i∨w.heap.size≤i) (h:JGTo y w1 F1 j s' n w'):JGTo y w F j s' n w' :=by
 obtain ⟨F2,g3,g4,g5⟩:=h
 exact ⟨F2,g3,fun i h=>(g4 i h).elim (fun h=>hi i h) (fun h=> .inr (Nat.le_trans hf.size h)),hf.trans g5 hi⟩
theorem RTo.then {w w1 w' :World} {F F1:Nat→Prop} {p:Nat} {r:Rs} {n:Nat} (hf:Fr F w w1) (hi:∀i,F1 i→F i∨w.heap.size≤i) (h:RTo w1 F1 p r n w'):RTo w F p r n w' :=by
 obtain ⟨F2,g3,g4,g5⟩:=h
 exact ⟨F2,g3,fun i h=>(g4 i h).elim (fun h=>hi i h) (fun h=> .inr (Nat.le_trans hf.size h)),hf.trans g5 hi⟩
theorem OwnN.blk {w:World} {F:Nat→Prop} {e:TypeId} {size b n:Nat} {cs:Array Value} (hb:Blk w b e cs) (hs:cs.size=n*size) (hn:n≤maxLen) (hF:F b):OwnN w F e size (.slice (some ⟨b,0,none⟩) n n) n cs.toList:=
 ⟨⟨by simpa using hs,.inr ⟨b,n,cs,rfl,Nat.zero_le _,hb,Nat.le_refl _,hn,hs,by rw [←hs,←Array.length_toList,List.take_length]⟩⟩,fun g hg=>by simp [Value.ownBlock] at hg;exact hg▸hF⟩
theorem MsgsAt.one {w:World} {G:Nat→Prop} {b:Nat} {m:Ms} {v:Value} (hb:Blk w b TMs (m.cells v).toArray) (hF:G b) (he:Ent w (fun i=>G i∧i≠b) v m.es):MsgsAt w G (.slice (some ⟨b,0,none⟩) 1 1) [m]:=by
 refine ⟨fun i=>i=b,fun i=>(G i∧i≠b)∧i<w.heap.size,[v],⟨?_,rfl,fun i m' x hm hx=> ?_,fun i hi hh=>hh.1.2 hi,fun i hi=>hi▸hb.lt,fun i hi=>hi.2⟩,fun i hi=>hi▸hF,fun i hi=>hi.1.1⟩
 ·have:=OwnN.blk (F:=fun i=>i=b) (size:=9) (n:=1) hb rfl (by unfold maxLen;omega) rfl
  simpa [msV] using this
 ·rcases i with _|i
  ·simp at hm hx
   subst hm hx
   exact he.lt
  ·simp at hm
def MsTo (w:World) (ms:List Ms) (e:Ending) (w' :World):Prop:=∃A c,e= .returned (.slice A ms.length c)∧MsgsAt w' (fun b=>w.heap.size≤b) (.slice A ms.length c) ms∧Fr No w w'
section
variable {w w' :World} {F:Nat→Prop} {p:Nat} {r:Rs} {s:Js} {n:Nat}
set_option maxHeartbeats 1000000 in
theorem p_remember (h:RAt w F p r n) (t v:Int) (hr:RsOk {r with js:=setTermS r.js t v}) (hsz:n+200≤140737488355328):Calls Try.prog 31 #[.pointer (some ⟨p,0,none⟩),.int .i64 t,.int .i64 v] w fun e w' =>e= .returned (.tuple #[])∧RTo w F p {r with js:=setTermS r.js t v} (n+48) w' :=by
 obtain ⟨j,Fj,bits,nx,mt,h1,h2,h3,h4,h5,h6,h7,-⟩:=h
 have c0:w.cell? ⟨p,0,none⟩=some (.pointer (some ⟨j,0,none⟩)):=h1.cell 0
 have hfin:=fun V (hj:JGTo true w Fj j (setTermS r.js t v) (n+48) V)=>RAt.jrn h1 h2 h4 h5 h6 h7 hj hr
 have hset:=g_SetTerm h3 t v hsz
 have hpl:=h1.lt
 generalize setTermX r.js t v=X at*
 generalize setTermS r.js t v=S at*
 clear h1 h2 h3 h4 h6 h7 hr
 have HFIN:=Lib.hid hfin
 have HSET:=Lib.hid hset
 have H5:=Lib.hid h5
 clear hfin hset h5
 go_enter Try.func31,Try.ntmps31
 go_wp2_with fail
 refine HSET.out.mono ?_
 rintro e w1 ⟨rfl,G1,a1,i1,f1⟩
 have c1:=(f1.cell (p:=⟨p,0,none⟩) hpl H5.out).trans c0
 have A1:=Lib.hid a1
 have I1:=Lib.hid i1
 have F1:=Lib.hid f1
 clear a1 i1 f1
 go_wp2_with fail
 refine (g_sync A1.out).mono ?_
 rintro e w2 ⟨rfl,t2⟩
 have T2:=Lib.hid (HFIN.out _ (JGTo.then F1.out I1.out t2))
 clear t2
 go_wp2_with fail
 go_end0
 exact ⟨rfl,T2.out⟩
set_option maxHeartbeats 1000000 in
theorem p_new (id n:Nat) (w:World) (hid:id<n) (hn:n≤5) (hodd:n % 2=1):Calls Try.prog 4 #[.int .i64 (id:Int),.int .i64 (n:Int)] w fun e w' =>∃p F,e= .returned (.tuple #[.pointer (some ⟨p,0,none⟩),.int .i64 0])∧RAt w' F p (repNew id n) 0∧(∀i,F i→w.heap.size≤i)∧Fr No w w' :=by
 have t1:decide ((n:Int)<1)=false:=by simp;omega
 have t2:decide (5<(n:Int))=false:=by simp;omega
 have t3:((n:Int) % 2 == 0)=false:=by simp;omega
 have t4:decide ((id:Int)<0)=false:=by simp
 have t5:decide (n≤id)=false:=by simp;omega
 have hok:=RsOk.new (id:=id) (n:=n) hid hn
 have HOK:=Lib.hid hok
 clear hok
 go_enter Try.func4,Try.ntmps4
 go_wp2_with fail
 refine (g_new _).mono ?_
 rintro e w1 ⟨j,G,rfl,a1,n1,f1⟩
 have A1:=Lib.hid a1
 have N1:=Lib.hid n1
 have F1:=Lib.hid f1
 clear a1 n1 f1
 go_wp2_with fail
 go_ret2
 have hs:=F1.out.size
 have hl:=A1.out.lt
 refine ⟨w1.heap.size,fun i=>G i∨i=w1.heap.size,rfl,⟨j,G,0,fun _=>0,fun _=>0,Blk.new _ _ _,.inr rfl,A1.out.frNo (fr_alloc _ _),fun i hi=> .inl hi,fun hh=> ?_,fun i hi=> ?_,⟨fun hh=> ?_,fun hh=> ?_⟩,HOK.out⟩,fun i hi=> ?_,F1.out.alloc _⟩
 ·have:=hl _ hh;omega
 ·rcases hi with hi|hi
  ·have:=hl i hi;simp;omega
  ·simp;omega
 ·simp [repNew] at hh
 ·simp [repNew] at hh
 ·rcases hi with hi|hi
  ·exact N1.out i hi
  ·omega
end
end
section
structure C1At (V:World) (g3 g4:Nat) (id dst t:Int) (x:Value):Prop where
 b3:Blk V g3 TMs #[.int .i64 0,.int .i64 0,.int .i64 0,.int .i64 0,.int .i64 0,.int .i64 0,.int .i64 0,.bool false,.slice none 0 0]
 b4:Blk V g4 TMs #[.int .i64 1,.int .i64 id,.int .i64 dst,.int .i64 t,x,.int .i64 0,.int .i64 0,.bool false,.slice none 0 0]
 ne:g3≠g4
section
variable {V V' :World} {g3 g4:Nat} {id dst t:Int} {x:Value}
theorem C1At.drew (h:C1At V g3 g4 id dst t x):C1At V.drew g3 g4 id dst t x:=⟨h.b3,h.b4,h.ne⟩
theorem C1At.fr (h:C1At V g3 g4 id dst t x) (hf:Fr No V V'):C1At V' g3 g4 id dst t x:=⟨h.b3.fr hf (fun h=>h),h.b4.fr hf (fun h=>h),h.ne⟩
theorem C1At.set4 (h:C1At V g3 g4 id dst t x) (u:Value):C1At (V.setCell ⟨g4,4,none⟩ u) g3 g4 id dst t u:=⟨h.b3.setFar h.ne _,(h.b4.set_ 4 u).conv rfl,h.ne⟩
theorem C1At.cells4 (h:C1At V g3 g4 id dst t x):(V.cell? ⟨g4,0,none⟩=some (.int .i64 1)∧V.cell? ⟨g4,1,none⟩=some (.int .i64 id)∧V.cell? ⟨g4,2,none⟩=some (.int .i64 dst)∧V.cell? ⟨g4,3,none⟩=some (.int .i64 t)∧V.cell? ⟨g4,4,none⟩=some (x)∧V.cell? ⟨g4,5,none⟩=some (.int .i64 0)∧V.cell? ⟨g4,6,none⟩=some (.int .i64 0)∧V.cell? ⟨g4,7,none⟩=some (.bool false)∧V.cell? ⟨g4,8,none⟩=some (.slice none 0 0))∧V.frozen? ⟨g4,4,none⟩=false∧V.frozen? ⟨g4,5,none⟩=false:=
 ⟨⟨h.b4.cell 0,h.b4.cell 1,h.b4.cell 2,h.b4.cell 3,h.b4.cell 4,h.b4.cell 5,h.b4.cell 6,h.b4.cell 7,h.b4.cell 8⟩,h.b4.frozen 4,h.b4.frozen 5⟩
theorem C1At.cells3 (h:C1At V g3 g4 id dst t x):(V.cell? ⟨g3,0,none⟩=some (.int .i64 0)∧V.cell? ⟨g3,1,none⟩=some (.int .i64 0)∧V.cell? ⟨g3,2,none⟩=some (.int .i64 0)∧V.cell? ⟨g3,3,none⟩=some (.int .i64 0)∧V.cell? ⟨g3,4,none⟩=some (.int .i64 0)∧V.cell? ⟨g3,5,none⟩=some (.int .i64 0)∧V.cell? ⟨g3,6,none⟩=some (.int .i64 0)∧V.cell? ⟨g3,7,none⟩=some (.bool false)∧V.cell? ⟨g3,8,none⟩=some (.slice none 0 0))∧V.frozen? ⟨g3,0,none⟩=false∧V.frozen? ⟨g3,1,none⟩=false∧V.frozen? ⟨g3,2,none⟩=false∧V.frozen? ⟨g3,3,none⟩=false∧V.frozen? ⟨g3,4,none⟩=false∧V.frozen? ⟨g3,5,none⟩=false∧V.frozen? ⟨g3,6,none⟩=false∧V.frozen? ⟨g3,7,none⟩=false∧V.frozen? ⟨g3,8,none⟩=false:=
 ⟨⟨h.b3.cell 0,h.b3.cell 1,h.b3.cell 2,h.b3.cell 3,h.b3.cell 4,h.b3.cell 5,h.b3.cell 6,h.b3.cell 7,h.b3.cell 8⟩,h.b3.frozen 0,h.b3.frozen 1,h.b3.frozen 2,h.b3.frozen 3,h.b3.frozen 4,h.b3.frozen 5,h.b3.frozen 6,h.b3.frozen 7,h.b3.frozen 8⟩
end
section
variable {w w' :World} {F:Nat→Prop} {p:Nat} {r:Rs} {s:Js} {n:Nat}
set_option maxRecDepth 100000 in
set_option maxHeartbeats 4000000 in
theorem p_c1 (h:RAt w F p r n) (dst:Int) (b:Nat) (hb:w.cell? ⟨b,0,none⟩=some (.pointer (some ⟨p,0,none⟩))):Calls Try.prog 34 #[.int .i64 dst,.pointer (some ⟨b,0,none⟩)] w fun e w' =>e= .returned (Ms.v ⟨1,r.id,dst,r.js.term,r.js.log.length,lastT r.js.log,0,false,[]⟩ (.slice none 0 0))∧Fr No w w' :=by
 have hm:=fun W (hW:Fr No w W)=>p_message (h.frNo hW) 1 dst
 have hLen:=fun W (hW:Fr No w W)=>p_len (h.frNo hW).rj
 have hLT:=fun W (hW:Fr No w W)=>p_lastTerm (h.frNo hW).rj h.ok.log.few
 have hbl:=cell_lt hb
 have hB:=fun W (hW:Fr No w W)=>(hW.cell (p:=⟨b,0,none⟩) hbl (fun h=>h)).trans hb
 generalize r.js.term=t at*
 generalize (r.id:Int)=id at*
 generalize lastT r.js.log=lt at*
 generalize r.js.log.length=ll at*
 clear h
 have hb1:=hB _ (fr_alloc w (.cells #[.int .i64 0,.int .i64 0,.int .i64 0,.int .i64 0,.int .i64 0,.int .i64 0,.int .i64 0,.bool false,.slice none 0 0] TMs))
 have HM:=Lib.hid hm
 have HLEN:=Lib.hid hLen
 have HLT:=Lib.hid hLT
 have HB:=Lib.hid hB
 clear hm hLen hLT hB
 go_enter Try.func34,Try.ntmps34
 go_wp2_with fail
 refine (HM.out _ (fr_alloc _ _)).mono ?_
 rintro e w1 ⟨rfl,f1⟩
 have F1:=Lib.hid ((fr_alloc w (.cells #[.int .i64 0,.int .i64 0,.int .i64 0,.int .i64 0,.int .i64 0,.int .i64 0,.int .i64 0,.bool false,.slice none 0 0] TMs)).transNo f1)
 have B1:=Lib.hid ((Blk.new w TMs #[.int .i64 0,.int .i64 0,.int .i64 0,.int .i64 0,.int .i64 0,.int .i64 0,.int .i64 0,.bool false,.slice none 0 0]).fr f1 (fun h=>h))
 clear f1 hb1
 go_wp2_with fail
 obtain ⟨W0,hW0⟩:∃W0,W0=w1.alloc (.cells #[.int .i64 1,.int .i64 id,.int .i64 dst,.int .i64 t,.int .i64 0,.int .i64 0,.int .i64 0,.bool false,.slice none 0 0] TMs):=⟨_,rfl⟩
 rw [←hW0]
 have hF:Fr No w W0:=by rw [hW0];exact F1.out.alloc _
 have q3:Blk W0 w.heap.size TMs #[.int .i64 0,.int .i64 0,.int .i64 0,.int .i64 0,.int .i64 0,.int .i64 0,.int .i64 0,.bool false,.slice none 0 0]:=by rw [hW0];exact B1.out.allocA _
 have q4:Blk W0 w1.heap.size TMs #[.int .i64 1,.int .i64 id,.int .i64 dst,.int .i64 t,.int .i64 0,.int .i64 0,.int .i64 0,.bool false,.slice none 0 0]:=by rw [hW0];exact Blk.new _ _ _
 have hs1:=F1.out.size
 have hl3:=B1.out.lt
 obtain ⟨g4,hg4⟩:∃g,g=w1.heap.size:=⟨_,rfl⟩
 obtain ⟨g3,hg3⟩:∃g,g=w.heap.size:=⟨_,rfl⟩
 rw [←hg4] at q4
 rw [←hg3] at q3
 rw [←hg4,←hg3]
 have n4:w.heap.size≤g4:=by omega
 have n3:w.heap.size≤g3:=by omega
 have n34:g3≠g4:=by omega
 have qq:C1At W0 g3 g4 id dst t (.int .i64 0):=⟨q3,q4,n34⟩
 clear hW0 hg4 hg3 hl3 hs1 F1 B1 q3 q4
 obtain ⟨⟨x0,x1,x2,x3,x4,x5,x6,x7,x8⟩,y4,y5⟩:=qq.cells4
 have hb0:=HB.out _ hF
 have QQ:=Lib.hid qq
 clear qq
 go_region_held3 (fun V=>V.cell? ⟨b,0,none⟩=some (.pointer (some ⟨p,0,none⟩))) (exact HB.out _ (by repeat (with_reducible first|assumption|exact Fr.refl _ _|refine Fr.alloc ?_ _|refine Fr.drew ?_|refine Fr.drewN ?_ _|refine Fr.setCell ?_ (.inr (by assumption)) _))) (first
  |(go_at_call 17;refine (HLEN.out _ (by repeat (with_reducible first|assumption|exact Fr.refl _ _|refine Fr.alloc ?_ _|refine Fr.drew ?_|refine Fr.drewN ?_ _|refine Fr.setCell ?_ (.inr (by assumption)) _))).mono ?_;rintro e w5 ⟨rfl,rfl⟩)
  |(go_at_call 36;refine (HLT.out _ (by repeat (with_reducible first|assumption|exact Fr.refl _ _|refine Fr.alloc ?_ _|refine Fr.drew ?_|refine Fr.drewN ?_ _|refine Fr.setCell ?_ (.inr (by assumption)) _))).mono ?_;rintro e w2 ⟨rfl,f2⟩;have Q2:Fr No w w2:=Fr.transNo (by repeat (with_reducible first|assumption|exact Fr.refl _ _|refine Fr.alloc ?_ _|refine Fr.drew ?_|refine Fr.drewN ?_ _|refine Fr.setCell ?_ (.inr (by assumption)) _)) f2;have k2:=C1At.fr (by first|exact QQ.out.drew|exact QQ.out|exact QQ.out.drew.set4 _|exact QQ.out.set4 _) f2;obtain ⟨⟨x0,x1,x2,x3,x4,x5,x6,x7,x8⟩,y4,y5⟩:=k2.cells4;obtain ⟨⟨z0,z1,z2,z3,z4,z5,z6,z7,z8⟩,v0,v1,v2,v3,v4,v5,v6,v7,v8⟩:=k2.cells3;have K2:=Lib.hid k2;clear k2 f2))
 all_goals
  go_wp2_with fail
  refine bodyPost_ret (v:=Ms.v ⟨1,id,dst,t,ll,lt,0,false,[]⟩ (.slice none 0 0)) (campaign1_results ⟨1,id,dst,t,ll,lt,0,false,[]⟩ _ g3 _ _ (ms_fill ⟨1,id,dst,t,ll,lt,0,false,[]⟩ (.slice none 0 0) ?_) rfl) rfl ⟨rfl,ms_fill_fr ⟨1,id,dst,t,ll,lt,0,false,[]⟩ (.slice none 0 0) ?_ n3⟩
  ·first|exact K2.out.b3|exact K2.out.b3.setFar n34 _|exact (K2.out.b3.setFar n34 _).setFar n34 _
  ·first|exact Q2|exact Q2.setCell (.inr n4) _|exact (Q2.setCell (p:=⟨g4,_,none⟩) (.inr n4) _).setCell (.inr n4) _
end
end
section
structure MAt (V:World) (g3 g4:Nat) (m:Ms) (v:Value):Prop where
 b3:Blk V g3 TMs #[.int .i64 0,.int .i64 0,.int .i64 0,.int .i64 0,.int .i64 0,.int .i64 0,.int .i64 0,.bool false,.slice none 0 0]
 b4:Blk V g4 TMs #[.int .i64 m.kind,.int .i64 m.from_,.int .i64 m.to_,.int .i64 m.term,.int .i64 m.index,.int .i64 m.prev,.int .i64 m.commit,.bool m.ok,v]
 ne:g3≠g4
section
variable {V V' :World} {g3 g4:Nat} {m:Ms} {v:Value}
theorem MAt.drew (h:MAt V g3 g4 m v):MAt V.drew g3 g4 m v:=⟨h.b3,h.b4,h.ne⟩
theorem MAt.fr (h:MAt V g3 g4 m v) (hf:Fr No V V'):MAt V' g3 g4 m v:=⟨h.b3.fr hf (fun h=>h),h.b4.fr hf (fun h=>h),h.ne⟩
theorem MAt.set4 (h:MAt V g3 g4 m v) (i:Int):MAt (V.setCell ⟨g4,4,none⟩ (.int .i64 i)) g3 g4 {m with index:=i} v:=⟨h.b3.setFar h.ne _,(h.b4.set_ 4 _).conv rfl,h.ne⟩
theorem MAt.set5 (h:MAt V g3 g4 m v) (i:Int):MAt (V.setCell ⟨g4,5,none⟩ (.int .i64 i)) g3 g4 {m with prev:=i} v:=⟨h.b3.setFar h.ne _,(h.b4.set_ 5 _).conv rfl,h.ne⟩
theorem MAt.set6 (h:MAt V g3 g4 m v) (i:Int):MAt (V.setCell ⟨g4,6,none⟩ (.int .i64 i)) g3 g4 {m with commit:=i} v:=⟨h.b3.setFar h.ne _,(h.b4.set_ 6 _).conv rfl,h.ne⟩
theorem MAt.set8 (h:MAt V g3 g4 m v) (u:Value):MAt (V.setCell ⟨g4,8,none⟩ u) g3 g4 m u:=⟨h.b3.setFar h.ne _,(h.b4.set_ 8 _).conv rfl,h.ne⟩
theorem MAt.cells4 (h:MAt V g3 g4 m v):(V.cell? ⟨g4,0,none⟩=some (.int .i64 m.kind)∧V.cell? ⟨g4,1,none⟩=some (.int .i64 m.from_)∧V.cell? ⟨g4,2,none⟩=some (.int .i64 m.to_)∧V.cell? ⟨g4,3,none⟩=some (.int .i64 m.term)∧V.cell? ⟨g4,4,none⟩=some (.int .i64 m.index)∧V.cell? ⟨g4,5,none⟩=some (.int .i64 m.prev)∧V.cell? ⟨g4,6,none⟩=some (.int .i64 m.commit)∧V.cell? ⟨g4,7,none⟩=some (.bool m.ok)∧V.cell? ⟨g4,8,none⟩=some (v))∧V.frozen? ⟨g4,4,none⟩=false∧V.frozen? ⟨g4,5,none⟩=false∧V.frozen? ⟨g4,6,none⟩=false∧V.frozen? ⟨g4,7,none⟩=false∧V.frozen? ⟨g4,8,none⟩=false:=
 ⟨⟨h.b4.cell 0,h.b4.cell 1,h.b4.cell 2,h.b4.cell 3,h.b4.cell 4,h.b4.cell 5,h.b4.cell 6,h.b4.cell 7,h.b4.cell 8⟩,h.b4.frozen 4,h.b4.frozen 5,h.b4.frozen 6,h.b4.frozen 7,h.b4.frozen 8⟩
theorem MAt.cells3 (h:MAt V g3 g4 m v):(V.cell? ⟨g3,0,none⟩=some (.int .i64 0)∧V.cell? ⟨g3,1,none⟩=some (.int .i64 0)∧V.cell? ⟨g3,2,none⟩=some (.int .i64 0)∧V.cell? ⟨g3,3,none⟩=some (.int .i64 0)∧V.cell? ⟨g3,4,none⟩=some (.int .i64 0)∧V.cell? ⟨g3,5,none⟩=some (.int .i64 0)∧V.cell? ⟨g3,6,none⟩=some (.int .i64 0)∧V.cell? ⟨g3,7,none⟩=some (.bool false)∧V.cell? ⟨g3,8,none⟩=some (.slice none 0 0))∧V.frozen? ⟨g3,0,none⟩=false∧V.frozen? ⟨g3,1,none⟩=false∧V.frozen? ⟨g3,2,none⟩=false∧V.frozen? ⟨g3,3,none⟩=false∧V.frozen? ⟨g3,4,none⟩=false∧V.frozen? ⟨g3,5,none⟩=false∧V.frozen? ⟨g3,6,none⟩=false∧V.frozen? ⟨g3,7,none⟩=false∧V.frozen? ⟨g3,8,none⟩=false:=
 ⟨⟨h.b3.cell 0,h.b3.cell 1,h.b3.cell 2,h.b3.cell 3,h.b3.cell 4,h.b3.cell 5,h.b3.cell 6,h.b3.cell 7,h.b3.cell 8⟩,h.b3.frozen 0,h.b3.frozen 1,h.b3.frozen 2,h.b3.frozen 3,h.b3.frozen 4,h.b3.frozen 5,h.b3.frozen 6,h.b3.frozen 7,h.b3.frozen 8⟩
end
def AppTo (w:World) (m:Ms) (e:Ending) (w' :World):Prop:=∃v,e= .returned (m.v v)∧Ent w' (fun b=>w.heap.size≤b) v m.es∧Fr No w w'
theorem Sees.at_ {r:Rs} {bits:Int} {nx mt:Nat→Int} (h:Sees r bits nx mt) (hr:r.role=3) {i:Nat} (hi:i<r.n):nx i=r.next i∧mt i=r.mtch i:=h.2 hr i hi
theorem rep_next {w:World} {p j:Nat} {r:Rs} {bits:Int} {nx mt:Nat→Int} (h:Blk w p TRep (repCells j r bits nx mt)) {i:Nat} (hi:i<5):w.cell? ⟨p,6+i,none⟩=some (.int .i64 (nx i))∧w.cell? ⟨p,11+i,none⟩=some (.int .i64 (mt i)):=by
 rw [h.cell,h.cell]
 match i,hi with
 |0,_=>exact ⟨rfl,rfl⟩
 |1,_=>exact ⟨rfl,rfl⟩
 |2,_=>exact ⟨rfl,rfl⟩
 |3,_=>exact ⟨rfl,rfl⟩
 |4,_=>exact ⟨rfl,rfl⟩
section
variable {w w' :World} {F:Nat→Prop} {p:Nat} {r:Rs} {s:Js} {n:Nat}
set_option maxRecDepth 100000 in
set_option maxHeartbeats 4000000 in
theorem p_appending (h:RAt w F p r n) (hr:r.role=3) (dst:Nat) (hd:dst<r.n):Calls Try.prog 40 #[.pointer (some ⟨p,0,none⟩),.int .i64 (dst:Int)] w (AppTo w (r.app dst)):=by
 have hm:=fun W (hW:Fr No w W)=>p_message (h.frNo hW) 3 dst
 have hok:=h.ok
 have hfew:=hok.log.few
 have hnx:=hok.nxt hr dst
 have h5:=hok.five
 have hfrom:=fun W (hW:Fr No w W)=>p_from (h.frNo hW).rj hfew (r.next dst) hnx
 obtain ⟨j,Fj,bits,nx,mt,h1,h2,h3,h4,-,-,h7,-⟩:=h
 have hT:=fun W (hW:Fr No w W)=>g_termAt (h3.frNo hW) ((r.next dst:Int)-1)
 have hP:∀W,Fr No w W→W.cell? ⟨p,0,none⟩=some (.pointer (some ⟨j,0,none⟩))∧W.cell? ⟨p,4,none⟩=some (.int .i64 (r.commit:Int))∧W.cell? ⟨p,6+dst,none⟩=some (.int .i64 (r.next dst:Int)):=fun W hW=>let q:=h1.fr hW (fun h=>h);⟨q.cell 0,q.cell 4,by rw [←(h7.at_ hr hd).1];exact (rep_next q (by omega)).1⟩
 unfold Rs.app
 have hpl:=h1.lt
 generalize r.js.term=t at*
 generalize (r.id:Int)=id at*
 generalize termAt r.js.log ((r.next dst:Int)-1)=pt at*
 generalize r.next dst=nd at*
 generalize (r.commit:Int)=cm at*
 generalize hes:r.js.log.drop nd=es at*
 have hb0:(0:Int)≤(dst:Int):=by omega
 have hb5:(dst:Int)<5:=by omega
 have hnd:(nd:Int)≤4096:=by omega
 clear h1 h2 h3 h4 h7 hok hr hfew hnx h5 hd hes
 have HM:=Lib.hid hm
 have HT:=Lib.hid hT
 have HP:=Lib.hid hP
 have HFROM:=Lib.hid hfrom
 clear hm hT hP hfrom
 go_enter Try.func40,Try.ntmps40
 go_wp2_with fail
 refine (HM.out _ (fr_alloc _ _)).mono ?_
 rintro e w1 ⟨rfl,f1⟩
 have F1:=Lib.hid ((fr_alloc w (.cells #[.int .i64 0,.int .i64 0,.int .i64 0,.int .i64 0,.int .i64 0,.int .i64 0,.int .i64 0,.bool false,.slice none 0 0] TMs)).transNo f1)
 have B1:=Lib.hid ((Blk.new w TMs #[.int .i64 0,.int .i64 0,.int .i64 0,.int .i64 0,.int .i64 0,.int .i64 0,.int .i64 0,.bool false,.slice none 0 0]).fr f1 (fun h=>h))
 clear f1
 obtain ⟨p0,p4,p6⟩:=HP.out _ F1.out
 obtain ⟨p0',p4',p6'⟩:=HP.out _ (F1.out.alloc (.cells #[.int .i64 3,.int .i64 id,.int .i64 dst,.int .i64 t,.int .i64 0,.int .i64 0,.int .i64 0,.bool false,.slice none 0 0] TMs))
 go_wp2_with fail
 obtain ⟨W0,hW0⟩:∃W0,W0=w1.alloc (.cells #[.int .i64 3,.int .i64 id,.int .i64 dst,.int .i64 t,.int .i64 nd,.int .i64 0,.int .i64 0,.bool false,.slice none 0 0] TMs):=⟨_,rfl⟩
 rw [←hW0]
 have hF:Fr No w W0:=by rw [hW0];exact F1.out.alloc _
 have q3:Blk W0 w.heap.size TMs #[.int .i64 0,.int .i64 0,.int .i64 0,.int .i64 0,.int .i64 0,.int .i64 0,.int .i64 0,.bool false,.slice none 0 0]:=by rw [hW0];exact B1.out.allocA _
 have q4:Blk W0 w1.heap.size TMs #[.int .i64 3,.int .i64 id,.int .i64 dst,.int .i64 t,.int .i64 nd,.int .i64 0,.int .i64 0,.bool false,.slice none 0 0]:=by rw [hW0];exact Blk.new _ _ _
 have hs1:=F1.out.size
 have hl3:=B1.out.lt
 obtain ⟨g4,hg4⟩:∃g,g=w1.heap.size:=⟨_,rfl⟩
 obtain ⟨g3,hg3⟩:∃g,g=w.heap.size:=⟨_,rfl⟩
 rw [←hg4] at q4
 rw [←hg3] at q3
 rw [←hg4,←hg3]
 have n4:w.heap.size≤g4:=by omega
 have n3:w.heap.size≤g3:=by omega
 have n34:g3≠g4:=by omega
 have qq:MAt W0 g3 g4 ⟨3,id,dst,t,nd,0,0,false,es⟩ (.slice none 0 0):=⟨q3,q4,n34⟩
 clear hW0 hg4 hg3 hl3 hs1 F1 B1 q3 q4 p0 p4 p6 p0' p4' p6'
 obtain ⟨⟨x0,x1,x2,x3,x4,x5,x6,x7,x8⟩,y4,y5,y6,y7,y8⟩:=qq.cells4
 obtain ⟨p0,p4,p6⟩:=HP.out _ hF
 have hwr:IntKind.i64.wrap ((nd:Int)-1)=(nd:Int)-1:=IntWalk.i64_in _ (by omega)
 have QQ:=Lib.hid qq
 clear qq
 go_region_held3 (fun V=>V.cell? ⟨p,0,none⟩=some (.pointer (some ⟨j,0,none⟩))∧V.cell? ⟨g4,4,none⟩=some (.int .i64 (nd:Int))) (first|(exact ⟨(HP.out _ (by repeat (with_reducible first|assumption|exact Fr.refl _ _|refine Fr.alloc ?_ _|refine Fr.drew ?_|refine Fr.drewN ?_ _|refine Fr.setCell ?_ (.inr (by assumption)) _))).1,(QQ.out.drew.cells4).1.2.2.2.2.1⟩)|(exact ⟨(HP.out _ (by repeat (with_reducible first|assumption|exact Fr.refl _ _|refine Fr.alloc ?_ _|refine Fr.drew ?_|refine Fr.drewN ?_ _|refine Fr.setCell ?_ (.inr (by assumption)) _))).1,(QQ.out.cells4).1.2.2.2.2.1⟩)|(exact ⟨(HP.out _ (by repeat (with_reducible first|assumption|exact Fr.refl _ _|refine Fr.alloc ?_ _|refine Fr.drew ?_|refine Fr.drewN ?_ _|refine Fr.setCell ?_ (.inr (by assumption)) _))).1,(K2.out.cells4).1.2.2.2.2.1⟩)|(exact ⟨(HP.out _ (by repeat (with_reducible first|assumption|exact Fr.refl _ _|refine Fr.alloc ?_ _|refine Fr.drew ?_|refine Fr.drewN ?_ _|refine Fr.setCell ?_ (.inr (by assumption)) _))).1,((K2.out.set5 _).cells4).1.2.2.2.2.1⟩)) (first
  |(go_at_call 42;refine (HT.out _ (by repeat (with_reducible first|assumption|exact Fr.refl _ _|refine Fr.alloc ?_ _|refine Fr.drew ?_|refine Fr.drewN ?_ _|refine Fr.setCell ?_ (.inr (by assumption)) _))).mono ?_;rintro e w2 ⟨rfl,f2⟩;have Q2:Fr No w w2:=Fr.transNo (by repeat (with_reducible first|assumption|exact Fr.refl _ _|refine Fr.alloc ?_ _|refine Fr.drew ?_|refine Fr.drewN ?_ _|refine Fr.setCell ?_ (.inr (by assumption)) _)) f2;have k2:=MAt.fr (by first|exact QQ.out.drew|exact QQ.out) f2;obtain ⟨⟨x0,x1,x2,x3,x4,x5,x6,x7,x8⟩,y4,y5,y6,y7,y8⟩:=k2.cells4;obtain ⟨p0,p4,p6⟩:=HP.out _ Q2;have K2:=Lib.hid k2;clear k2 f2))
 clear hwr
 go_wp2_with fail
 refine (HFROM.out _ (by repeat (with_reducible first|assumption|exact Fr.refl _ _|refine Fr.alloc ?_ _|refine Fr.drew ?_|refine Fr.drewN ?_ _|refine Fr.setCell ?_ (.inr (by assumption)) _))).mono ?_
 rintro e w3 ⟨A,c,rfl,o3,f3⟩
 have Q3:Fr No w w3:=Fr.transNo (by repeat (with_reducible first|assumption|exact Fr.refl _ _|refine Fr.alloc ?_ _|refine Fr.drew ?_|refine Fr.drewN ?_ _|refine Fr.setCell ?_ (.inr (by assumption)) _)) f3
 have k3:=MAt.fr ((K2.out.set5 pt).set6 cm) f3
 obtain ⟨⟨x0,x1,x2,x3,x4,x5,x6,x7,x8⟩,y4,y5,y6,y7,y8⟩:=k3.cells4
 obtain ⟨⟨z0,z1,z2,z3,z4,z5,z6,z7,z8⟩,v0,v1,v2,v3,v4,v5,v6,v7,v8⟩:=k3.cells3
 have hs3:=Q2.size
 have hl3:=K2.out.b3.lt
 have hl4:=K2.out.b4.lt
 have E3:=Lib.hid (Ent.of_own (o3.mono (G:=fun b=>w2.heap.size≤b) fun i hi=>by simpa using hi))
 have K3:=Lib.hid k3
 clear k3 f3 o3
 go_wp2_with fail
 refine bodyPost_ret (v:=Ms.v ⟨3,id,dst,t,nd,pt,cm,false,es⟩ (.slice A es.length c)) (appending_results ⟨3,id,dst,t,nd,pt,cm,false,es⟩ _ g3 _ _ (ms_fill ⟨3,id,dst,t,nd,pt,cm,false,es⟩ (.slice A es.length c) (K3.out.set8 _).b3) rfl) rfl ⟨_,rfl,?_,ms_fill_fr ⟨3,id,dst,t,nd,pt,cm,false,es⟩ (.slice A es.length c) (Q3.setCell (p:=⟨g4,8,none⟩) (.inr n4) _) n3⟩
 have hf:Fr (fun i=>i=g3∨i=g4) w3 (w3.setCell ⟨g4,8,none⟩ (.slice A es.length c)):=(Fr.refl _ _).setCell (p:=⟨g4,8,none⟩) (.inl (.inr rfl)) _
 exact (E3.out.fr (ms_fill_frF ⟨3,id,dst,t,nd,pt,cm,false,es⟩ (.slice A es.length c) hf (.inl rfl)) fun i hi hh=>by have hi2:w2.heap.size≤i:=hi;omega).mono fun i hi=>by have hi2:w2.heap.size≤i:=hi;omega
end
end
section
def setI (f:Nat→Int) (i:Nat) (x:Int):Nat→Int:=fun k=>if k=i then x else f k
theorem rep_set6 {w:World} {p j:Nat} {r:Rs} {bits:Int} {nx mt:Nat→Int} (h:Blk w p TRep (repCells j r bits nx mt)) {i:Nat} (hi:i<5) (x:Int):Blk (w.setCell ⟨p,6+i,none⟩ (.int .i64 x)) p TRep (repCells j r bits (setI nx i x) mt):=by
 refine (h.set_ (6+i) (.int .i64 x)).conv ?_
 match i,hi with
 |0,_=>rfl
 |1,_=>rfl
 |2,_=>rfl
 |3,_=>rfl
 |4,_=>rfl
theorem rep_set11 {w:World} {p j:Nat} {r:Rs} {bits:Int} {nx mt:Nat→Int} (h:Blk w p TRep (repCells j r bits nx mt)) {i:Nat} (hi:i<5) (x:Int):Blk (w.setCell ⟨p,11+i,none⟩ (.int .i64 x)) p TRep (repCells j r bits nx (setI mt i x)):=by
 refine (h.set_ (11+i) (.int .i64 x)).conv ?_
 match i,hi with
 |0,_=>rfl
 |1,_=>rfl
 |2,_=>rfl
 |3,_=>rfl
 |4,_=>rfl
section
variable {w w' :World} {F:Nat→Prop} {p:Nat} {r:Rs} {s:Js} {n:Nat}
def LeadAt (w:World) (p j:Nat) (r:Rs) (bits ll:Int) (k:Nat) (W:World):Prop:=
 ∃nx mt:Nat→Int,Blk W p TRep (repCells j {r with role:=3} bits nx mt)∧(∀i,i<k→nx i=ll∧mt i=0)∧Fr (fun i=>i=p) w W
theorem LeadAt.drew {w W:World} {p j:Nat} {r:Rs} {bits ll:Int} {k:Nat} (h:LeadAt w p j r bits ll k W):LeadAt w p j r bits ll k W.drew:=by
 obtain ⟨nx,mt,h1,h2,h3⟩:=h
 exact ⟨nx,mt,h1,h2,h3.drew⟩
theorem LeadAt.next {w W W' :World} {p j:Nat} {r:Rs} {bits ll:Int} {k:Nat} {nx mt:Nat→Int} (hb:Blk W p TRep (repCells j {r with role:=3} bits nx mt)) (hk:∀i,i<k→nx i=ll∧mt i=0) (hf:Fr (fun i=>i=p) w W) (h5:k<5)
  (hW:W' =(W.setCell ⟨p,6+k,none⟩ (.int .i64 ll)).setCell ⟨p,11+k,none⟩ (.int .i64 0)∨W' =(W.setCell ⟨p,11+k,none⟩ (.int .i64 0)).setCell ⟨p,6+k,none⟩ (.int .i64 ll)):LeadAt w p j r bits ll (k+1) W' :=by
 have hf' :Fr (fun i=>i=p) w W' :=by
  rcases hW with rfl|rfl
  ·exact (hf.setCell (p:=⟨p,6+k,none⟩) (.inl rfl) _).setCell (p:=⟨p,11+k,none⟩) (.inl rfl) _
  ·exact (hf.setCell (p:=⟨p,11+k,none⟩) (.inl rfl) _).setCell (p:=⟨p,6+k,none⟩) (.inl rfl) _
 refine ⟨setI nx k ll,setI mt k 0,?_,fun i hi=> ?_,hf'⟩
 ·rcases hW with rfl|rfl
  ·exact rep_set11 (rep_set6 hb h5 ll) h5 0
  ·exact rep_set6 (rep_set11 hb h5 0) h5 ll
 ·simp only [setI]
  by_cases e:i=k
  ·simp [e]
  ·rw [if_neg e,if_neg e]
   exact hk i (by omega)
set_option maxRecDepth 100000 in
set_option maxHeartbeats 4000000 in
theorem p_lead (h:RAt w F p r n):Calls Try.prog 32 #[.pointer (some ⟨p,0,none⟩)] w fun e w' =>e= .returned (.tuple #[])∧RTo w F p r.lead n w' :=by
 have hok:=h.ok
 have hid:=hok.idn
 have h5n:=hok.five
 obtain ⟨j,Fj,bits,nx,mt,h1,h2,h3,h4,h5,h6,h7,-⟩:=h
 have hfin:=fun W (hl:LeadAt w p j r bits r.js.log.length r.n W)=>(let ⟨nx',mt',k1,k2,k3⟩:=hl;RAt.cells (r:=r) (r' :=r.lead) h2 h3 h4 h5 h6 k3 (nx' :=nx') (mt' :=mt') k1 rfl ⟨fun hh=>by simp [Rs.lead] at hh,fun _ i hi=>k2 i hi⟩ hok.lead:RTo w F p r.lead n W)
 have hLen:=fun W (hf:Fr (fun i=>i=p) w W) (hc:W.cell? ⟨p,0,none⟩=some (.pointer (some ⟨j,0,none⟩)))=>p_len (w:=W) (p:=p) (s:=r.js) (n:=n) ⟨j,Fj,hc,h3.fr hf fun i hi he=>h5 (he▸hi),h5⟩
 have c3:w.cell? ⟨p,3,none⟩=some (.int .i64 r.role):=h1.cell 3
 have f3:=h1.frozen 3
 have b0:LeadAt w p j r bits r.js.log.length 0 (w.setCell ⟨p,3,none⟩ (.int .i64 3)):=⟨nx,mt,(h1.set_ 3 _).conv rfl,fun i hi=>by omega,(Fr.refl (fun i=>i=p) w).setCell (p:=⟨p,3,none⟩) (.inl rfl) _⟩
 have d2:(w.setCell ⟨p,3,none⟩ (.int .i64 3)).cell? ⟨p,2,none⟩=some (.int .i64 (r.n:Int)):=(h1.set_ 3 (.int .i64 3)).cell 2
 generalize r.js.log.length=ll at*
 clear h1 h2 h3 h4 h5 h6 h7 hok
 have HFIN:=Lib.hid hfin
 have HLEN:=Lib.hid hLen
 have B0:=Lib.hid b0
 clear hfin hLen b0
 go_enter Try.func32,Try.ntmps32
 go_wp2_with fail
 go_loopw [10] (fun i wr=>∃k:Nat,k≤r.n∧i= .int .i64 k∧LeadAt w p j r bits ll k wr) (fun i _=>r.n-(intOf i).toNat)
 case atStart=>exact ⟨0,Nat.zero_le _,rfl,B0.out⟩
 case round=>
  obtain ⟨k,hk,rfl,nx',mt',hb,hkk,hf⟩:=hrel
  have hdone:=fun (he:k=r.n)=>HFIN.out wr (he▸⟨nx',mt',hb,hkk,hf⟩)
  by_cases hlt:k<r.n
  ·have hlt2:(k:Int)<(r.n:Int):=by omega
   have h5k:k<5:=by omega
   have i0:(0:Int)≤(k:Int):=by omega
   have i5:(k:Int)<5:=by omega
   have hnext:=fun W' hW=>LeadAt.next (W' :=W') hb hkk hf h5k hW
   have c0:wr.cell? ⟨p,0,none⟩=some (.pointer (some ⟨j,0,none⟩)):=hb.cell 0
   obtain ⟨c6,c11⟩:=rep_next hb h5k
   have f6:=hb.frozen (6+k)
   have f11:=hb.frozen (11+k)
   have c0' :(wr.setCell ⟨p,11+k,none⟩ (.int .i64 0)).cell? ⟨p,0,none⟩=some (.pointer (some ⟨j,0,none⟩)):=(rep_set11 hb h5k 0).cell 0
   have n1:(6+k:Nat)≠11+k:=by omega
   have n2:(11+k:Nat)≠6+k:=by omega
   clear hdone hb hkk d2
   have HNEXT:=Lib.hid hnext
   have C0' :=Lib.hid c0'
   clear hnext c0'
   go_wp2_with fail
   go_region_held3 (fun V=>True) (exact trivial) (first
    |(go_at_call 17;refine (HLEN.out _ (by repeat (with_reducible first|assumption|exact Fr.refl _ _|refine Fr.alloc ?_ _|refine Fr.drew ?_|refine Fr.drewN ?_ _|refine Fr.setCell ?_ (.inl rfl) _)) (by first|exact c0|exact C0'.out)).mono ?_;rintro e w5 ⟨rfl,rfl⟩))
   all_goals
    go_wp2_with fail
    go_roundw
    case rel=>exact ⟨k+1,by omega,by go_num,(by first|exact (HNEXT.out _ (.inl rfl)).drew|exact (HNEXT.out _ (.inr rfl)).drew|exact HNEXT.out _ (.inl rfl)|exact HNEXT.out _ (.inr rfl))⟩
    case measure=>simp [intOf];omega
  ·have hge:k=r.n:=by omega
   have T:=Lib.hid (hdone hge)
   have t1:decide (k<r.n)=false:=by simpa using hlt
   clear hb hkk hdone
   go_wp2_with fail
   go_end0
   exact ⟨rfl,T.out⟩
end
end
section
theorem ms_info:(Try.prog.info? TMs).map (fun i=>(i.zero,i.size,i.bytes))=some (some (.agg #[.int .i64 0,.int .i64 0,.int .i64 0,.int .i64 0,.int .i64 0,.int .i64 0,.int .i64 0,.bool false,.slice none 0 0]),9,88):=by kernel_rfl
theorem others_succ (id k:Nat):others id (k+1)=others id k++if k=id then [] else [k]:=by
 unfold others
 rw [List.range_succ,List.filter_append]
 congr 1
 by_cases h:k=id<;>simp [h]
theorem others_len (id k:Nat):(others id k).length≤k:=by
 have:=List.length_filter_le (fun x=>x != id) (List.range k)
 simpa [others] using this
def Lst (w0:World) (ms:List Ms) (v:Value) (w:World):Prop:=(∃A c,v= .slice A ms.length c)∧MsgsAt w (fun b=>w0.heap.size≤b) v ms∧Fr No w0 w
theorem Lst.frNo {w0 w w' :World} {ms:List Ms} {v:Value} (h:Lst w0 ms v w) (hf:Fr No w w'):Lst w0 ms v w' :=⟨h.1,h.2.1.frNo hf,h.2.2.transNo hf⟩
theorem Lst.nil (w:World):Lst w [] (.slice none 0 0) w:=⟨⟨none,0,rfl⟩,MsgsAt.nil _ _,Fr.refl _ _⟩
theorem Lst.to {w0 w:World} {ms:List Ms} {v:Value} (h:Lst w0 ms v w):MsTo w0 ms (.returned v) w:=by
 obtain ⟨⟨A,c,rfl⟩,h2,h3⟩:=h
 exact ⟨A,c,rfl,h2,h3⟩
section
variable {w w' :World} {F:Nat→Prop} {p:Nat} {r:Rs} {s:Js} {n:Nat}
set_option maxRecDepth 100000 in
set_option maxHeartbeats 4000000 in
theorem p_others_app (h:RAt w F p r n) (hr:r.role=3):Calls Try.prog 33 #[.pointer (some ⟨p,0,none⟩),.func (.func 40) #[.pointer (some ⟨p,0,none⟩)] #[]] w (MsTo w ((others r.id r.n).map r.app)):=by
 obtain ⟨i1,hi1,hz0,hz1,hz2⟩:=info_parts ms_info
 have hC:∀W,Fr No w W→∀k,k<r.n→Calls Try.prog 40 #[.pointer (some ⟨p,0,none⟩),.int .i64 (k:Int)] W (AppTo W (r.app k)):=fun W hW k hk=>p_appending (h.frNo hW) hr k hk
 have h5:=h.ok.five
 obtain ⟨j,Fj,bits,nx,mt,h1,-⟩:=h
 have hP:∀W,Fr No w W→W.cell? ⟨p,1,none⟩=some (.int .i64 (r.id:Int)):=fun W hW=>(h1.fr hW (fun h=>h)).cell 1
 have c2:w.cell? ⟨p,2,none⟩=some (.int .i64 (r.n:Int)):=h1.cell 2
 generalize r.id=id at*
 generalize r.n=nn at*
 clear h1
 have HC:=Lib.hid hC
 have HP:=Lib.hid hP
 clear hC hP
 go_enter Try.func33,Try.ntmps33
 go_wp2_with fail
 go_loopw [5,11] (fun v i wr=>∃k:Nat,k≤nn∧i= .int .i64 k∧Lst w ((others id k).map r.app) v wr) (fun _ i _=>nn-(intOf i).toNat)
 case atStart=>exact ⟨0,Nat.zero_le _,rfl,Lst.nil _⟩
 case round=>
  obtain ⟨k,hk,rfl,hlst⟩:=hrel
  have HLST:=Lib.hid hlst
  clear hlst
  have c1:=HP.out _ HLST.out.2.2
  by_cases hlt:k<nn
  ·have hlt2:(k:Int)<(nn:Int):=by omega
   have hos:=others_succ id k
   by_cases hid:k=id
   ·subst hid
    rw [if_pos rfl,List.append_nil] at hos
    have HOS:=Lib.hid hos
    clear hos
    go_wp2_with fail
    go_roundw
    case rel=>exact ⟨k+1,by omega,by go_num,by rw [HOS.out];exact HLST.out⟩
    case measure=>simp [intOf];omega
   ·rw [if_neg hid] at hos
    have t1:((k:Int) == (id:Int))=false:=by simp;omega
    have t2:((k:Int) != (id:Int))=true:=by simp;omega
    have hol:=others_len id k
    obtain ⟨ms,hms⟩:∃ms,ms=(others id k).map r.app:=⟨_,rfl⟩
    have hml:ms.length≤5:=by rw [hms,List.length_map];omega
    have hnx:(others id (k+1)).map r.app=ms++[r.app k]:=by rw [hos,List.map_append,hms];rfl
    have hlst:=HLST.out
    rw [←hms] at hlst
    obtain ⟨⟨A,c,rfl⟩,⟨Gs,Ge,vs,q1,q2,q3⟩,q4⟩:=hlst
    have hsn:=fun (W2 W3:World) (v' x:Value) (m:Ms) (hf2:Fr No wr W2) hx (ha:AppendedN W2 0 TMs 9 (.slice A ms.length c) ms.length (msV ms vs) (m.cells x) 1 v' W3)=>MsIn.snoc (G:=fun b=>w.heap.size≤b) (W:=wr) (m:=m) (x:=x) q1 (fun i hi=>by have:=q4.size;omega) q2 q3 hf2 hx ha
    have hown:=fun W (hf:Fr No wr W)=>(q1.own.frNo hf).1
    have hG:=q2
    have Q4:=Lib.hid q4
    clear q1 q2 q3 q4 HLST hms hos
    have hCk:=HC.out _ Q4.out k hlt
    generalize r.app k=m at*
    have HSN:=Lib.hid hsn
    have HOWN:=Lib.hid hown
    have HG:=Lib.hid hG
    have HNX:=Lib.hid hnx
    have HCK:=Lib.hid hCk
    clear hsn hown hG hnx hCk
    go_wp2_with fail
    refine HCK.out.mono ?_
    rintro e w5 ⟨x,rfl,hx,f5⟩
    have HX:=Lib.hid hx
    have F5:=Lib.hid f5
    clear hx f5
    go_wp2_with (at_builtin;refine wpList_append_rdN _ rfl (.tmp 20) (.tmp 24) _ rfl 0 TMs i1 _ 9 88 Try.underlying58 hi1 hz0 hz1 hz2 rfl (by decide) (.slice A ms.length c) ms.length (msV ms vs) rfl (HOWN.out _ (F5.out.alloc _)) (w5.heap.size+1) (some ⟨w5.heap.size,0,none⟩) 1 1 (Ms.cells m x) rfl ?ka1 ?ka2 ?ka3 ?ka4 ?ka5 ?ka6 ?ka7 ?_)
    case ka1=>exact fun h=>by cases h
    case ka2=>exact Rd.new _ _ _ rfl
    case ka3=>rfl
    case ka4=>exact ms_one m HX.out
    case ka5=>unfold maxLen;omega
    case ka6=>omega
    case ka7=>exact Nat.zero_le _
    intro v1 w6 happ
    obtain ⟨A',c',rfl,-⟩:=ownsRow_slice_form happ.1
    obtain ⟨hl,f6⟩:=HSN.out _ _ _ x m (F5.out.alloc _) (HX.out.frNo (fr_alloc _ _)) happ
    have Q6:=Lib.hid ((Q4.out.transNo (F5.out.alloc _)).transNew f6 HG.out)
    clear happ f6
    have HL:=Lib.hid hl
    clear hl
    go_wp2_with fail
    go_roundw
    case rel=>exact ⟨k+1,by omega,by go_num,⟨A',c',by rw [HNX.out,List.length_append];rfl⟩,by rw [HNX.out];exact HL.out,Q6.out⟩
    case measure=>simp [intOf];omega
  ·have hge:k=nn:=by omega
   subst hge
   have t1:decide ((k:Int)<(k:Int))=false:=by simp
   obtain ⟨A,c,hv⟩:=HLST.out.1
   have HL2:=Lib.hid HLST.out.to
   clear HLST
   rw [hv] at*
   go_wp2_with fail
   go_ret
   exact HL2.out
set_option maxRecDepth 100000 in
set_option maxHeartbeats 4000000 in
theorem p_others_c1 (h:RAt w F p r n) (b:Nat) (hb:w.cell? ⟨b,0,none⟩=some (.pointer (some ⟨p,0,none⟩))):Calls Try.prog 33 #[.pointer (some ⟨p,0,none⟩),.func (.func 34) #[] #[.pointer (some ⟨b,0,none⟩)]] w (MsTo w ((others r.id r.n).map r.vote)):=by
 obtain ⟨i1,hi1,hz0,hz1,hz2⟩:=info_parts ms_info
 have hbl:=cell_lt hb
 have hbb:=fun W (hW:Fr No w W)=>(hW.cell (p:=⟨b,0,none⟩) hbl (fun h=>h)).trans hb
 have hC:∀W,Fr No w W→∀k,k<r.n→Calls Try.prog 34 #[.int .i64 (k:Int),.pointer (some ⟨b,0,none⟩)] W (AppTo W (r.vote k)):=fun W hW k hk=>(p_c1 (h.frNo hW) (k:Int) b (hbb W hW)).mono fun e w' ⟨e1,e2⟩=>⟨_,e1,Ent.nil _ _,e2⟩
 have h5:=h.ok.five
 obtain ⟨j,Fj,bits,nx,mt,h1,-⟩:=h
 have hP:∀W,Fr No w W→W.cell? ⟨p,1,none⟩=some (.int .i64 (r.id:Int)):=fun W hW=>(h1.fr hW (fun h=>h)).cell 1
 have c2:w.cell? ⟨p,2,none⟩=some (.int .i64 (r.n:Int)):=h1.cell 2
 generalize r.id=id at*
 generalize r.n=nn at*
 clear hb hbl hbb
 clear h1
 have HC:=Lib.hid hC
 have HP:=Lib.hid hP
 clear hC hP
 go_enter Try.func33,Try.ntmps33
 go_wp2_with fail
 go_loopw [5,11] (fun v i wr=>∃k:Nat,k≤nn∧i= .int .i64 k∧Lst w ((others id k).map r.vote) v wr) (fun _ i _=>nn-(intOf i).toNat)
 case atStart=>exact ⟨0,Nat.zero_le _,rfl,Lst.nil _⟩
 case round=>
  obtain ⟨k,hk,rfl,hlst⟩:=hrel
  have HLST:=Lib.hid hlst
  clear hlst
  have c1:=HP.out _ HLST.out.2.2
  by_cases hlt:k<nn
  ·have hlt2:(k:Int)<(nn:Int):=by omega
   have hos:=others_succ id k
   by_cases hid:k=id
   ·subst hid
    rw [if_pos rfl,List.append_nil] at hos
    have HOS:=Lib.hid hos
    clear hos
    go_wp2_with fail
    go_roundw
    case rel=>exact ⟨k+1,by omega,by go_num,by rw [HOS.out];exact HLST.out⟩
    case measure=>simp [intOf];omega
   ·rw [if_neg hid] at hos
    have t1:((k:Int) == (id:Int))=false:=by simp;omega
    have t2:((k:Int) != (id:Int))=true:=by simp;omega
    have hol:=others_len id k
    obtain ⟨ms,hms⟩:∃ms,ms=(others id k).map r.vote:=⟨_,rfl⟩
    have hml:ms.length≤5:=by rw [hms,List.length_map];omega
    have hnx:(others id (k+1)).map r.vote=ms++[r.vote k]:=by rw [hos,List.map_append,hms];rfl
    have hlst:=HLST.out
    rw [←hms] at hlst
    obtain ⟨⟨A,c,rfl⟩,⟨Gs,Ge,vs,q1,q2,q3⟩,q4⟩:=hlst
    have hsn:=fun (W2 W3:World) (v' x:Value) (m:Ms) (hf2:Fr No wr W2) hx (ha:AppendedN W2 0 TMs 9 (.slice A ms.length c) ms.length (msV ms vs) (m.cells x) 1 v' W3)=>MsIn.snoc (G:=fun b=>w.heap.size≤b) (W:=wr) (m:=m) (x:=x) q1 (fun i hi=>by have:=q4.size;omega) q2 q3 hf2 hx ha
    have hown:=fun W (hf:Fr No wr W)=>(q1.own.frNo hf).1
    have hG:=q2
    have Q4:=Lib.hid q4
    clear q1 q2 q3 q4 HLST hms hos
    have hCk:=HC.out _ Q4.out k hlt
    generalize r.vote k=m at*
    have HSN:=Lib.hid hsn
    have HOWN:=Lib.hid hown
    have HG:=Lib.hid hG
    have HNX:=Lib.hid hnx
    have HCK:=Lib.hid hCk
    clear hsn hown hG hnx hCk
    go_wp2_with fail
    refine HCK.out.mono ?_
    rintro e w5 ⟨x,rfl,hx,f5⟩
    have HX:=Lib.hid hx
    have F5:=Lib.hid f5
    clear hx f5
    go_wp2_with (at_builtin;refine wpList_append_rdN _ rfl (.tmp 20) (.tmp 24) _ rfl 0 TMs i1 _ 9 88 Try.underlying58 hi1 hz0 hz1 hz2 rfl (by decide) (.slice A ms.length c) ms.length (msV ms vs) rfl (HOWN.out _ (F5.out.alloc _)) (w5.heap.size+1) (some ⟨w5.heap.size,0,none⟩) 1 1 (Ms.cells m x) rfl ?kb1 ?kb2 ?kb3 ?kb4 ?kb5 ?kb6 ?kb7 ?_)
    case kb1=>exact fun h=>by cases h
    case kb2=>exact Rd.new _ _ _ rfl
    case kb3=>rfl
    case kb4=>exact ms_one m HX.out
    case kb5=>unfold maxLen;omega
    case kb6=>omega
    case kb7=>exact Nat.zero_le _
    intro v1 w6 happ
    obtain ⟨A',c',rfl,-⟩:=ownsRow_slice_form happ.1
    obtain ⟨hl,f6⟩:=HSN.out _ _ _ x m (F5.out.alloc _) (HX.out.frNo (fr_alloc _ _)) happ
    have Q6:=Lib.hid ((Q4.out.transNo (F5.out.alloc _)).transNew f6 HG.out)
    clear happ f6
    have HL:=Lib.hid hl
    clear hl
    go_wp2_with fail
    go_roundw
    case rel=>exact ⟨k+1,by omega,by go_num,⟨A',c',by rw [HNX.out,List.length_append];rfl⟩,by rw [HNX.out];exact HL.out,Q6.out⟩
    case measure=>simp [intOf];omega
  ·have hge:k=nn:=by omega
   subst hge
   have t1:decide ((k:Int)<(k:Int))=false:=by simp
   obtain ⟨A,c,hv⟩:=HLST.out.1
   have HL2:=Lib.hid HLST.out.to
   clear HLST
   rw [hv] at*
   go_wp2_with fail
   go_ret
   exact HL2.out
end
end
section
theorem advG_low (r:Rs) {k:Nat} (h:k≤r.commit):r.advG k=r.commit:=by
 rcases k with _|k
 ·rfl
 ·simp only [Rs.advG];rw [if_pos h]
theorem advG_no (r:Rs) {k:Nat} (h:r.commit<k+1) (hn:¬(termAt r.js.log (k:Int)=r.js.term∧r.n<2*r.stores (k+1) r.n)):r.advG (k+1)=r.advG k:=by
 simp only [Rs.advG];rw [if_neg (by omega),if_neg hn]
theorem advG_yes (r:Rs) {k:Nat} (h:r.commit<k+1) (hn:termAt r.js.log (k:Int)=r.js.term∧r.n<2*r.stores (k+1) r.n):r.advG (k+1)=k+1:=by
 simp only [Rs.advG];rw [if_neg (by omega),if_pos hn]
theorem stores_le (r:Rs) (m:Nat):∀k,r.stores m k≤k+1:=by
 intro k
 induction k with
 |zero=>exact Nat.le_refl _
 |succ k ih=>simp only [Rs.stores];split<;>omega
theorem adv_same (r:Rs) (h:r.advG r.js.log.length=r.commit):r.advance=r:=by unfold Rs.advance;rw [h]
section
variable {w w' :World} {F:Nat→Prop} {p:Nat} {r:Rs} {s:Js} {n:Nat}
set_option maxRecDepth 100000 in
set_option maxHeartbeats 4000000 in
theorem p_advance (h:RAt w F p r n) (hr:r.role=3):Calls Try.prog 39 #[.pointer (some ⟨p,0,none⟩)] w fun e w' =>e= .returned (.tuple #[])∧RTo w F p r.advance n w' :=by
 have hok:=h.ok
 have hid:=hok.idn
 have h5n:=hok.five
 have hfew:=hok.log.few
 have hcom:=hok.com
 have hLen:=p_len h.rj
 have hTerm:=fun W (hW:Fr No w W)=>p_term (h.frNo hW).rj
 have hstill:=fun W (hf:Fr No w W) (he:r.advG r.js.log.length=r.commit)=>((adv_same r he).symm▸h.still hf:RTo w F p r.advance n W)
 obtain ⟨j,Fj,bits,nx,mt,h1,h2,h3,h4,h5,h6,h7,-⟩:=h
 have hput:=fun W (k:Nat) (x:Int) (hx:x=k) (hf:Fr No w W) (he:r.advG r.js.log.length=k)=>RTo.after hf (RAt.cells (w:=W) (w' :=W.setCell ⟨p,4,none⟩ (.int .i64 x)) (r:=r) (r' :=r.advance) (n:=n) h2 (h3.frNo hf) h4 h5 (fun i hi=>Nat.lt_of_lt_of_le (h6 i hi) hf.size) (bits' :=bits) (nx' :=nx) (mt' :=mt) (fr_set _ ⟨p,4,none⟩ _) (((h1.fr hf (fun h=>h)).set_ 4 _).conv (by subst hx he;rfl)) rfl h7 hok.advance)
 have hT:=fun W (hW:Fr No w W) i=>g_termAt (h3.frNo hW) i
 have hP:∀W,Fr No w W→W.cell? ⟨p,0,none⟩=some (.pointer (some ⟨j,0,none⟩))∧W.cell? ⟨p,1,none⟩=some (.int .i64 (r.id:Int))∧W.cell? ⟨p,2,none⟩=some (.int .i64 (r.n:Int))∧W.cell? ⟨p,4,none⟩=some (.int .i64 (r.commit:Int))∧W.frozen? ⟨p,4,none⟩=false:=fun W hW=>let q:=h1.fr hW (fun h=>h);⟨q.cell 0,q.cell 1,q.cell 2,q.cell 4,q.frozen 4⟩
 have hM:∀W,Fr No w W→∀i,i<r.n→W.cell? ⟨p,11+i,none⟩=some (.int .i64 (r.mtch i:Int)):=fun W hW i hi=>by rw [←(h7.at_ hr hi).2];exact (rep_next (h1.fr hW (fun h=>h)) (by omega)).2
 clear h1 h2 h3 h4 h5 h6 h7 hok
 have HLEN:=Lib.hid hLen
 have HTERM:=Lib.hid hTerm
 have HSTILL:=Lib.hid hstill
 have HPUT:=Lib.hid hput
 have HT:=Lib.hid hT
 have HP:=Lib.hid hP
 have HM:=Lib.hid hM
 clear hLen hTerm hstill hput hT hP hM
 go_enter Try.func39,Try.ntmps39
 go_wp2_with fail
 refine HLEN.out.mono ?_
 rintro e w1 ⟨rfl,rfl⟩
 go_wp2_with fail
 go_loopw [2] (fun m wr=>∃k:Nat,k≤r.js.log.length∧m= .int .i64 k∧r.advG r.js.log.length=r.advG k∧Fr No w wr) (fun m _=>(intOf m).toNat)
 case atStart=>exact ⟨_,Nat.le_refl _,rfl,rfl,Fr.refl _ _⟩
 case round=>
  obtain ⟨k,hk,rfl,hadv,hf⟩:=hrel
  obtain ⟨c0,c1,c2,c4,f4⟩:=HP.out _ hf
  have HADV:=Lib.hid hadv
  have HF:=Lib.hid hf
  clear hadv hf
  by_cases hlt:r.commit<k
  ·obtain ⟨m,rfl⟩:∃m,k=m+1:=⟨k-1,by omega⟩
   have hlt2:(r.commit:Int)<((m+1:Nat):Int):=by omega
   have hT2:=HT.out _ HF.out (m:Int)
   have hmb:(m:Int)≤4096:=by omega
   by_cases ht:termAt r.js.log (m:Int)=r.js.term
   ·have hput1:=fun W hf (he:r.advG r.js.log.length=m+1)=>HPUT.out W (m+1) ((m:Int)+1) (by omega) hf he
    have hyes:=fun hh=>HADV.out.trans (advG_yes r hlt ⟨ht,hh⟩)
    have hno:=fun (hh:¬r.n<2*r.stores (m+1) r.n)=>HADV.out.trans (advG_no r hlt fun h=>hh h.2)
    rw [ht] at hT2
    generalize r.js.term=tt at*
    have t1:(tt == tt)=true:=by simp
    have t2:(tt != tt)=false:=by simp
    have hle:=fun k=>stores_le r (m+1) k
    clear ht
    have HNO:=Lib.hid hno
    have HYES:=Lib.hid hyes
    have HT2:=Lib.hid hT2
    have HPUT1:=Lib.hid hput1
    have HLE:=Lib.hid hle
    clear hno hyes hT2 hput1 hle
    go_wp2_with fail
    refine HT2.out.mono ?_
    rintro e w2 ⟨rfl,f2⟩
    have F2:=Lib.hid (HF.out.transNo f2)
    clear f2
    go_wp2_with fail
    refine (HTERM.out _ F2.out).mono ?_
    rintro e w3 ⟨rfl,rfl⟩
    obtain ⟨c0,c1,c2,c4,f4⟩:=HP.out _ F2.out
    go_wp2_with fail
    go_loop [3,29] (fun c i=>∃k:Nat,k≤r.n∧i= .int .i64 k∧c= .int .i64 (r.stores (m+1) k:Int)) (fun _ i=>r.n-(intOf i).toNat)
    case atStart=>exact ⟨0,Nat.zero_le _,rfl,rfl⟩
    case round=>
     obtain ⟨k,hk,rfl,rfl⟩:=hrel
     have hle1:=HLE.out k
     by_cases hkn:k<r.n
     ·have hkn2:(k:Int)<(r.n:Int):=by omega
      have i0:(0:Int)≤(k:Int):=by omega
      have i5:(k:Int)<5:=by omega
      have hst:r.stores (m+1) (k+1)=r.stores (m+1) k+if k≠r.id∧m+1≤r.mtch k then 1 else 0:=rfl
      have c11:=HM.out _ F2.out k hkn
      by_cases hki:k=r.id
      ·have u1:((k:Int) == (r.id:Int))=true:=by simp;omega
       have u2:((k:Int) != (r.id:Int))=false:=by simp;omega
       rw [if_neg (fun hh=>hh.1 hki),Nat.add_zero] at hst
       have HST:=Lib.hid hst
       clear hst
       go_wp2_with fail
       go_round
       case rel=>exact ⟨k+1,by omega,by go_num,by rw [HST.out];rfl⟩
       case measure=>simp [intOf];omega
      ·have u1:((k:Int) == (r.id:Int))=false:=by simp;omega
       have u2:((k:Int) != (r.id:Int))=true:=by simp;omega
       by_cases hmk:m+1≤r.mtch k
       ·have v1:decide (((m:Int)+1)≤(r.mtch k:Int))=true:=by simp;omega
        have v2:decide (m+1≤r.mtch k)=true:=by simp;omega
        have v3:((m:Int)+1)≤(r.mtch k:Int):=by omega
        rw [if_pos ⟨hki,hmk⟩] at hst
        have HST:=Lib.hid hst
        clear hst
        go_wp2_with fail
        go_round
        case rel=>exact ⟨k+1,by omega,by go_num,by rw [HST.out];go_num⟩
        case measure=>simp [intOf];omega
       ·have v1:decide (((m:Int)+1)≤(r.mtch k:Int))=false:=by simp;omega
        have v2:decide (m+1≤r.mtch k)=false:=by simp;omega
        have v3:¬((m:Int)+1)≤(r.mtch k:Int):=by omega
        rw [if_neg (fun hh=>hmk hh.2),Nat.add_zero] at hst
        have HST:=Lib.hid hst
        clear hst
        go_wp2_with fail
        go_round
        case rel=>exact ⟨k+1,by omega,by go_num,by rw [HST.out];rfl⟩
        case measure=>simp [intOf];omega
     ·obtain rfl:k=r.n:=by omega
      have u1:decide (r.n<r.n)=false:=by simp
      by_cases hmaj:r.n<2*r.stores (m+1) r.n
      ·have v1:(r.n:Int)<2*(r.stores (m+1) r.n:Int):=by omega
       have P:=Lib.hid (HPUT1.out _ F2.out (HYES.out hmaj))
       go_wp2_with fail
       exact bodyPost_ret (v:= .tuple #[]) (by simp [results,Try.results39,go_sem]) rfl ⟨rfl,P.out⟩
      ·have v1:¬(r.n:Int)<2*(r.stores (m+1) r.n:Int):=by omega
       have NO:=Lib.hid (HNO.out hmaj)
       go_wp2_with fail
       go_roundw
       case rel=>exact ⟨m,by omega,by go_num,NO.out,F2.out⟩
       case measure=>simp [intOf]
   ·have hno:=HADV.out.trans (advG_no r hlt (fun hh=>ht hh.1))
    generalize termAt r.js.log (m:Int)=tm at*
    generalize r.js.term=tt at*
    have t1:(tm == tt)=false:=by simpa using ht
    have t2:(tm != tt)=true:=by simpa using ht
    clear ht
    have HNO:=Lib.hid hno
    have HT2:=Lib.hid hT2
    clear hno hT2
    go_wp2_with fail
    refine HT2.out.mono ?_
    rintro e w2 ⟨rfl,f2⟩
    have F2:=Lib.hid (HF.out.transNo f2)
    clear f2
    go_wp2_with fail
    refine (HTERM.out _ F2.out).mono ?_
    rintro e w3 ⟨rfl,rfl⟩
    go_wp2_with fail
    go_roundw
    case rel=>exact ⟨m,by omega,by go_num,HNO.out,F2.out⟩
    case measure=>simp [intOf]
  ·have hge:¬(r.commit:Int)<(k:Int):=by omega
   have E:=Lib.hid (HSTILL.out _ HF.out (HADV.out.trans (advG_low r (by omega))))
   have t1:decide (r.commit<k)=false:=by simpa using hlt
   go_wp2_with fail
   go_end0
   exact ⟨rfl,E.out⟩
end
end
section
def CallTo (w:World) (F:Nat→Prop) (p:Nat) (x:Rs×List Ms) (n:Nat) (e:Ending) (w' :World):Prop:=
 ∃A c F' G,e= .returned (.slice A x.2.length c)∧MsgsAt w' G (.slice A x.2.length c) x.2∧RAt w' F' p x.1 n∧(∀i,F' i→F i∨w.heap.size≤i)∧(∀i,G i→w.heap.size≤i)∧(∀i,F' i→¬G i)∧Fr F w w'
theorem CallTo.mk' {w w1 w' :World} {F:Nat→Prop} {p n:Nat} {r:Rs} {ms:List Ms} {e:Ending} (h:RTo w F p r n w1) (k:MsTo w1 ms e w'):CallTo w F p (r,ms) n e w' :=by
 obtain ⟨F',h1,h2,h3⟩:=h
 obtain ⟨A,c,k1,k2,k3⟩:=k
 refine ⟨A,c,F',_,k1,k2,h1.frNo k3,h2,fun i hi=>Nat.le_trans h3.size hi,fun i hi hh=> ?_,h3.trans k3 fun _ hi=>hi.elim⟩
 have:=h1.lt i hi
 have hh2:w1.heap.size≤i:=hh
 omega
theorem MsTo.none_ (w:World):MsTo w [] (.returned (.slice none 0 0)) w:=⟨none,0,rfl,MsgsAt.nil _ _,Fr.refl _ _⟩
theorem RTo.alloc {w w' :World} {F:Nat→Prop} {p n:Nat} {r:Rs} {o:Obj} (h:RTo (w.alloc o) F p r n w'):RTo w F p r n w' :=RTo.after (fr_alloc _ _) h
theorem RAt.self_ {w:World} {F:Nat→Prop} {p n:Nat} {r:Rs} (h:RAt w F p r n):F p:=let ⟨_,_,_,_,_,_,h2,_⟩:=h;h2
section
variable {w w' :World} {F:Nat→Prop} {p:Nat} {r:Rs} {s:Js} {n:Nat}
set_option maxRecDepth 100000 in
set_option maxHeartbeats 4000000 in
theorem p_campaign (h:RAt w F p r n) (hsz:n+200≤140737488355328):Calls Try.prog 21 #[.pointer (some ⟨p,0,none⟩)] w (CallTo w F p r.campaign (n+48)):=by
 have hok:=h.ok
 have hid:=hok.idn
 have h5n:=hok.five
 have hlo:=hok.lo
 have hhi:=hok.hi
 obtain ⟨W0,hW0⟩:∃W0,W0=w.alloc (.cells #[.pointer (some ⟨p,0,none⟩)] 22):=⟨_,rfl⟩
 have hf0:Fr No w W0:=by rw [hW0];exact fr_alloc _ _
 have hb:Blk W0 w.heap.size 22 #[.pointer (some ⟨p,0,none⟩)]:=by rw [hW0];exact Blk.new _ _ _
 have hbF:¬F w.heap.size:=fun hh=>by have:=h.lt _ hh;omega
 have hle:=h.more (m:=n+48) (by omega)
 have h0:=h.frNo hf0
 obtain ⟨b,hbb⟩:∃b,b=w.heap.size:=⟨_,rfl⟩
 rw [←hbb] at hb hbF
 have cb:W0.cell? ⟨b,0,none⟩=some (.pointer (some ⟨p,0,none⟩)):=hb.cell 0
 have hbp:b≠p:=fun hh=>hbF (hh▸h.self_)
 by_cases hT:1073741824≤r.js.term
 ·have hpl:r.campaign=(r,[]):=by unfold Rs.campaign;rw [if_pos hT]
  rw [hpl]
  have hTerm:=p_term h0.rj
  have hfin:=CallTo.mk' (hle.still hf0) (MsTo.none_ W0)
  generalize r.js.term=t at*
  clear h h0 hle hok hb hbF hf0 hpl
  have HTERM:=Lib.hid hTerm
  have HFIN:=Lib.hid hfin
  have HW0:=Lib.hid hW0
  have HBB:=Lib.hid hbb
  clear hTerm hfin hW0 hbb
  go_enter Try.func21,Try.ntmps21
  go_wp2_with fail
  rw [←HBB.out,←HW0.out]
  refine HTERM.out.mono ?_
  rintro e w1 ⟨rfl,rfl⟩
  go_wp2_with fail
  go_ret
  exact HFIN.out
 ·obtain ⟨sx,sj⟩:=setTermS_yes r.js (r.js.term+1) r.id (by omega) (by omega) (by omega) (by omega) (.inl (by omega))
  have hrem:=fun W (hf:Fr No W0 W)=>p_remember (h0.frNo hf) (r.js.term+1) r.id (by rw [sj];exact ⟨hok.log.up (by simp only;omega),by simp only;omega,by simp only;omega,by simp only;omega,by simp only;omega,hok.idn,hok.five,hok.role,hok.com,hok.vts,hok.nxt,hok.mts⟩) hsz
  rw [sj] at hrem
  have hTerm:=fun W (hf:Fr No W0 W)=>p_term (h0.frNo hf).rj
  have hP:∀W,Fr No W0 W→W.cell? ⟨p,1,none⟩=some (.int .i64 (r.id:Int))∧W.cell? ⟨b,0,none⟩=some (.pointer (some ⟨p,0,none⟩)):=fun W hW=>⟨(let ⟨_,_,_,_,_,h1,_⟩:=h0.frNo hW;h1.cell 1),(hb.fr hW (fun h=>h)).cell 0⟩
  have hwr:IntKind.i64.wrap (r.js.term+1)=r.js.term+1:=IntWalk.i64_in _ (by omega)
  have hT2:r.js.term<1073741824:=by omega
  have hB:∀W W',Fr No W0 W→Fr F W W'→Blk W' b 22 #[.pointer (some ⟨p,0,none⟩)]:=fun W W' hf hf' =>((hb.fr hf (fun h=>h)).fr hf' hbF)
  have hv:IntKind.i64.wrap (2 ^ min (IntKind.u64.wrap (r.id:Int)).toNat 64)=((2 ^ r.id:Nat):Int):=by
   have:r.id<5:=by omega
   revert this
   generalize r.id=i
   intro hi
   match i,hi with
   |0,_=>decide
   |1,_=>decide
   |2,_=>decide
   |3,_=>decide
   |4,_=>decide
  have hr1ok:=hok.campaign
  have hp1:r.n=1→r.campaign=(({r with js:=⟨r.js.term+1,r.id,r.js.log⟩,role:=2,votes:=2 ^ r.id}:Rs).lead,[]):=fun hh=>by unfold Rs.campaign;rw [if_neg hT,if_pos hh]
  have hp2:¬r.n=1→r.campaign=(({r with js:=⟨r.js.term+1,r.id,r.js.log⟩,role:=2,votes:=2 ^ r.id}:Rs),(others r.id r.n).map ({r with js:=⟨r.js.term+1,r.id,r.js.log⟩,role:=2,votes:=2 ^ r.id}:Rs).vote):=fun hh=>by unfold Rs.campaign;rw [if_neg hT,if_neg hh]
  have hok1:RsOk {r with js:=⟨r.js.term+1,r.id,r.js.log⟩,role:=2,votes:=2 ^ r.id}:=⟨hok.log.up (by simp only;omega),by simp only;omega,by simp only;omega,by simp only;omega,by simp only;omega,hok.idn,hok.five,.inr (.inl rfl),hok.com,by
   have:(2:Nat) ^ r.id<2 ^ 5:=Nat.pow_lt_pow_right (by omega) (by omega)
   simpa using this,fun hh=>by simp at hh,fun hh=>by simp at hh⟩
  have hall:=fun (V w2 W4:World) {G:Nat→Prop} (hf:Fr No W0 V) (a2:RAt w2 G p {r with js:=⟨r.js.term+1,r.id,r.js.log⟩} (n+48)) (f2:Fr F V w2) (i2:∀i,G i→F i∨V.heap.size≤i) (hW:W4=((w2.setCell ⟨p,3,none⟩ (.int .i64 2)).setCell ⟨p,5,none⟩ (.int .i64 ((2 ^ r.id:Nat):Int))).drew)=>(RTo.after (hf0.transNo hf) (RTo.then f2 i2 (let ⟨j,Fj,bits,nx,mt,h1,h2,h3,h4,h5,h6,h7,h8⟩:=a2;RAt.cells (r:={r with js:=⟨r.js.term+1,r.id,r.js.log⟩}) (r' :={r with js:=⟨r.js.term+1,r.id,r.js.log⟩,role:=2,votes:=2 ^ r.id}) h2 h3 h4 h5 h6 (bits' :=((2 ^ r.id:Nat):Int)) (nx' :=nx) (mt' :=mt) (by rw [hW];exact (((Fr.refl (fun i=>i=p) w2).setCell (p:=⟨p,3,none⟩) (.inl rfl) _).setCell (p:=⟨p,5,none⟩) (.inl rfl) _).drew) (by rw [hW];exact (((h1.set_ 3 _).set_ 5 _).conv rfl).drewA) rfl ⟨fun _=>rfl,fun hh=>by simp at hh⟩ hok1)):RTo w F p {r with js:=⟨r.js.term+1,r.id,r.js.log⟩,role:=2,votes:=2 ^ r.id} (n+48) W4)
  have HREM:=Lib.hid hrem
  have HTERM:=Lib.hid hTerm
  have HP:=Lib.hid hP
  have HW0:=Lib.hid hW0
  have HBB:=Lib.hid hbb
  have HB:=Lib.hid hB
  have HV:=Lib.hid hv
  have HP1:=Lib.hid hp1
  have HP2:=Lib.hid hp2
  have HALL:=Lib.hid hall
  clear hrem hTerm hP hW0 hbb hB hv hp1 hp2 hall
  go_enter Try.func21,Try.ntmps21
  go_wp2_with fail
  rw [←HBB.out,←HW0.out]
  refine (HTERM.out _ (Fr.refl _ _)).mono ?_
  rintro e w1 ⟨rfl,rfl⟩
  go_wp2_with fail
  go_region_held3 (fun V=>V.cell? ⟨p,1,none⟩=some (.int .i64 (r.id:Int))∧V.cell? ⟨b,0,none⟩=some (.pointer (some ⟨p,0,none⟩))) (first|exact ⟨k1,k0⟩|exact HP.out _ (by repeat (first|assumption|exact Fr.refl _ _|refine Fr.alloc ?_ _|refine Fr.drew ?_|refine Fr.drewN ?_ _))) (first
   |(go_at_call 14;refine (HTERM.out _ (by repeat (first|assumption|exact Fr.refl _ _|refine Fr.alloc ?_ _|refine Fr.drew ?_|refine Fr.drewN ?_ _))).mono ?_;rintro e w1 ⟨rfl,rfl⟩)
   |(go_at_call 31;refine (HREM.out _ (by repeat (first|assumption|exact Fr.refl _ _|refine Fr.alloc ?_ _|refine Fr.drew ?_|refine Fr.drewN ?_ _))).mono ?_;rintro e w2 ⟨rfl,G,a2,i2,f2⟩;have kb:=HB.out _ _ (by repeat (first|assumption|exact Fr.refl _ _|refine Fr.alloc ?_ _|refine Fr.drew ?_|refine Fr.drewN ?_ _)) f2;have k0:w2.cell? ⟨b,0,none⟩=some (.pointer (some ⟨p,0,none⟩)):=kb.cell 0;have KB:=Lib.hid kb;clear kb;have A2:=Lib.hid a2;obtain ⟨j,Fj,bits,nx,mt,h1,-⟩:=a2;have k1:w2.cell? ⟨p,1,none⟩=some (.int .i64 (r.id:Int)):=h1.cell 1;have k3:w2.cell? ⟨p,3,none⟩=some (.int .i64 r.role):=h1.cell 3;have k5:w2.cell? ⟨p,5,none⟩=some (.int .i64 bits):=h1.cell 5;have kf3:=h1.frozen 3;have kf5:=h1.frozen 5;have H1:=Lib.hid h1;clear h1;have I2:=Lib.hid i2;have F2:=Lib.hid f2;clear i2 f2))
  have hid5:(r.id:Int)<5:=by omega
  go_wp2_with fail
  go_region_held3 (fun V=>V.cell? ⟨p,1,none⟩=some (.int .i64 (r.id:Int))∧V.cell? ⟨b,0,none⟩=some (.pointer (some ⟨p,0,none⟩))) (first|exact ⟨k1,k0⟩|exact ⟨((H1.out.set_ 3 _).drewA).cell 1,((KB.out.setFar hbp _).drewA).cell 0⟩|exact ⟨(H1.out.set_ 3 _).cell 1,(KB.out.setFar hbp _).cell 0⟩|exact ⟨((H1.out.set_ 5 _).drewA).cell 1,((KB.out.setFar hbp _).drewA).cell 0⟩|exact ⟨(H1.out.set_ 5 _).cell 1,(KB.out.setFar hbp _).cell 0⟩|exact ⟨(((H1.out.set_ 3 _).set_ 5 _).drewA).cell 1,(((KB.out.setFar hbp _).setFar hbp _).drewA).cell 0⟩|exact ⟨(((H1.out.set_ 5 _).set_ 3 _).drewA).cell 1,(((KB.out.setFar hbp _).setFar hbp _).drewA).cell 0⟩) (fail)
  all_goals
   rw [HV.out]
   obtain ⟨W4,hW4⟩:∃W4,W4=((w2.setCell ⟨p,3,none⟩ (.int .i64 2)).setCell ⟨p,5,none⟩ (.int .i64 ((2 ^ r.id:Nat):Int))).drew:=⟨_,rfl⟩
   rw [←hW4]
   have hb4:Blk W4 b 22 #[.pointer (some ⟨p,0,none⟩)]:=by rw [hW4];exact ((KB.out.setFar hbp _).setFar hbp _).drewA
   have hr4:=HALL.out _ w2 W4 (by repeat (first|assumption|exact Fr.refl _ _|refine Fr.alloc ?_ _|refine Fr.drew ?_|refine Fr.drewN ?_ _)) A2.out F2.out I2.out hW4
   obtain ⟨G4,a4,i4,f4⟩:=hr4
   have cb4:W4.cell? ⟨b,0,none⟩=some (.pointer (some ⟨p,0,none⟩)):=hb4.cell 0
   have c2:W4.cell? ⟨p,2,none⟩=some (.int .i64 (r.n:Int)):=(let ⟨_,_,_,_,_,h1,_⟩:=a4;h1.cell 2)
   have I4:=Lib.hid i4
   have F4:=Lib.hid f4
   clear hW4 hb4 i4 f4 k0 k1 k3 k5 kf3 kf5
   by_cases hn1:r.n=1
   ·have u1:((r.n:Int) == 1)=true:=by simp;omega
    have hpl:=HP1.out hn1
    have hlead:=p_lead a4
    clear hn1 a4
    have HLEAD:=Lib.hid hlead
    have HPL:=Lib.hid hpl
    clear hlead hpl
    go_wp2_with fail
    refine HLEAD.out.mono ?_
    rintro e w5 ⟨rfl,t5⟩
    have T5:=Lib.hid (CallTo.mk' (RTo.then F4.out I4.out t5) (MsTo.none_ w5))
    clear t5
    go_wp2_with fail
    go_ret
    rw [HPL.out]
    exact T5.out
   ·have u1:((r.n:Int) == 1)=false:=by simp;omega
    have hpl:=HP2.out hn1
    have hoth:=p_others_c1 a4 b cb4
    have hrt:RTo w F p {r with js:=⟨r.js.term+1,r.id,r.js.log⟩,role:=2,votes:=2 ^ r.id} (n+48) W4:=⟨G4,a4,I4.out,F4.out⟩
    clear hn1 a4
    generalize (others r.id r.n).map ({r with js:=⟨r.js.term+1,r.id,r.js.log⟩,role:=2,votes:=2 ^ r.id}:Rs).vote=ms at hoth hpl
    have HOTH:=Lib.hid hoth
    have HPL:=Lib.hid hpl
    have HRT:=Lib.hid hrt
    clear hoth hpl hrt
    go_wp2_with fail
    refine HOTH.out.mono ?_
    rintro e w5 m5
    have T5:=Lib.hid (CallTo.mk' HRT.out m5)
    obtain ⟨A5,c5,rfl,-,-⟩:=m5
    go_wp2_with fail
    go_ret
    rw [HPL.out]
    exact T5.out
end
end
section
def CallTo2 (w:World) (F:Nat→Prop) (p:Nat) (x:Rs×List Ms) (X:Int) (n:Nat) (e:Ending) (w' :World):Prop:=
 ∃A c F' G,e= .returned (.tuple #[.slice A x.2.length c,.int .i64 X])∧MsgsAt w' G (.slice A x.2.length c) x.2∧RAt w' F' p x.1 n∧(∀i,F' i→F i∨w.heap.size≤i)∧(∀i,G i→w.heap.size≤i)∧(∀i,F' i→¬G i)∧Fr F w w'
theorem CallTo2.mk' {w w1 w' :World} {F:Nat→Prop} {p n:Nat} {r:Rs} {ms:List Ms} {X:Int} {A:Option Addr} {c:Nat} (h:RTo w F p r n w1) (k:MsTo w1 ms (.returned (.slice A ms.length c)) w'):CallTo2 w F p (r,ms) X n (.returned (.tuple #[.slice A ms.length c,.int .i64 X])) w' :=by
 obtain ⟨A',c',F',G,e,h1,h2,h3,h4,h5,h6⟩:=CallTo.mk' h k
 injection e with e
 injection e with e1 e2 e3
 subst e1 e3
 exact ⟨A,c,F',G,rfl,h1,h2,h3,h4,h5,h6⟩
theorem g_Append_no {y:Bool} {w:World} {F:Nat→Prop} {j:Nat} {s:Js} {n:Nat} (h:JG y w F j s n) (t:Int) (e:En) (he:e.ok) (hsz:n+200≤140737488355328) (h0:addX s t e≠0):
  Calls Try.prog 37 #[.pointer (some ⟨j,0,none⟩),.int .i64 t,e.v] w fun r w' =>r= .returned (.int .i64 (addX s t e))∧JGTo y w F j s n w' :=by
 obtain ⟨d,xs,k,rs,h1,h2,h3,h4,h5⟩:=h
 refine (j_Append h1 h3 t e he (by omega)).mono ?_
 rintro r w' ⟨rfl,j2⟩
 refine ⟨rfl,?_⟩
 rw [if_neg h0,addS_no h0] at j2
 exact JGTo.of j2 h2 h3 h4 h5
theorem propOk {r:Rs} (h:RsOk r) (e:En) (he:e.ok):RsOk {r with js:=addS r.js r.js.term e}:=by
 have hl:=h.log.add r.js.term e he
 obtain ⟨t1,t2⟩:=addS_tv r.js r.js.term e
 have hlen:r.js.log.length≤(addS r.js r.js.term e).log.length:=by
  by_cases h0:addX r.js r.js.term e=0
  ·rw [addS_yes h0];simp
  ·rw [addS_no h0];exact Nat.le_refl _
 refine ⟨hl,?_,?_,?_,?_,h.idn,h.five,h.role,Nat.le_trans h.com hlen,h.vts,fun hh i=>Nat.le_trans (h.nxt hh i) hlen,fun hh i=>Nat.le_trans (h.mts hh i) hlen⟩
 ·simp only;rw [t1];exact h.lo
 ·simp only;rw [t1];exact h.hi
 ·simp only;rw [t2];exact h.vlo
 ·simp only;rw [t2];exact h.vhi
section
variable {w w' :World} {F:Nat→Prop} {p:Nat} {r:Rs} {s:Js} {n:Nat}
set_option maxRecDepth 100000 in
set_option maxHeartbeats 4000000 in
theorem p_propose (h:RAt w F p r n) (e:En) (he:e.ok) (hsz:n+200≤140737488355328):Calls Try.prog 22 #[.pointer (some ⟨p,0,none⟩),e.v] w (CallTo2 w F p (r.propose e) (r.propX e) (n+128)):=by
 have hok:=h.ok
 have hok2:=hok.propose e he
 have hle:=h.more (m:=n+128) (by omega)
 obtain ⟨j,Fj,bits,nx,mt,h1,h2,h3,h4,h5,h6,h7,h8⟩:=h
 have hT:=fun W (hf:Fr No w W)=>p_term (p:=p) (s:=r.js) (n:=n) ⟨j,Fj,(h1.fr hf (fun h=>h)).cell 0,h3.frNo hf,h5⟩
 have c3:w.cell? ⟨p,3,none⟩=some (.int .i64 r.role):=h1.cell 3
 have hpl:=h1.lt
 have hP:∀W,Fr No w W→W.cell? ⟨p,0,none⟩=some (.pointer (some ⟨j,0,none⟩))∧W.cell? ⟨p,3,none⟩=some (.int .i64 r.role):=fun W hW=>⟨(h1.fr hW (fun h=>h)).cell 0,(h1.fr hW (fun h=>h)).cell 3⟩
 have hstill:=fun W (hf:Fr No w W)=>hle.still hf
 by_cases hr:r.role=3
 ·have t1:(r.role == 3)=true:=by simpa using hr
  have t2:(r.role != 3)=false:=by simpa using hr
  have hX:r.propX e=addX r.js r.js.term e:=by unfold Rs.propX;rw [if_neg (by simpa using hr)]
  have hfj:=fun i (hi:Fj i)=>h6 i (h4 i hi)
  have hcel:=fun V W (hf:Fr No w V) (hj:Fr Fj V W)=>((((h1.fr hf (fun h=>h)).fr hj h5).cell 0):W.cell? ⟨p,0,none⟩=some (.pointer (some ⟨j,0,none⟩)))
  by_cases h0:addX r.js r.js.term e=0
  ·have hpr:r.propose e=(r.proposed e,(r.proposed e).toAll):=by unfold Rs.propose;rw [hX,if_pos h0]
   have hA:=fun W (hf:Fr No w W)=>g_Append (h3.frNo hf) r.js.term e he hsz
   have hjr:=fun V W (hf:Fr No w V) (hj:JGTo true V Fj j (addS r.js r.js.term e) (n+128) W)=>(RTo.after hf (RAt.jrn (r:=r) (s' :=addS r.js r.js.term e) (h1.fr hf (fun h=>h)) h2 h4 h5 (fun i hi=>Nat.lt_of_lt_of_le (h6 i hi) hf.size) h7 hj (propOk h8 e he)):RTo w F p {r with js:=addS r.js r.js.term e} (n+128) W)
   have hfin:∀V W,Fr No w V→JGTo false V Fj j (addS r.js r.js.term e) (n+128) W→∃G,JG false W G j (addS r.js r.js.term e) (n+128)∧∀W',JGTo true W G j (addS r.js r.js.term e) (n+128) W'→RTo w F p {r with js:=addS r.js r.js.term e} (n+128) W' :=fun V W hf hj=>(let ⟨G,q1,q2,q3⟩:=hj;⟨G,q1,fun W' k=>hjr V W' hf (JGTo.then q3 q2 k)⟩)
   have hr2:({r with js:=addS r.js r.js.term e}:Rs).role=3:=hr
   rw [hpr,hX]
   rw [h0] at hA ⊢
   unfold Rs.proposed
   generalize hr1:({r with js:=addS r.js r.js.term e}:Rs)=r1 at*
   generalize addS r.js r.js.term e=S at*
   generalize r.js.term=t at*
   obtain ⟨k0,tick,te,ce,ot,ep,fr,un,nn⟩:=e
   unfold En.v at*
   simp only at*
   obtain ⟨W0,hW0⟩:∃W0,W0=w.alloc (.cells #[.int .i64 k0,.int .i64 tick,.int .i64 te,.int .i64 ce,.int .i64 ot,.int .i64 ep,.int .i64 fr,.int .i64 un,.int .i64 nn] TEnt):=⟨_,rfl⟩
   have hf0:Fr No w W0:=by rw [hW0];exact fr_alloc _ _
   obtain ⟨g,hg⟩:∃g,g=w.heap.size:=⟨_,rfl⟩
   have hb:Blk W0 g TEnt #[.int .i64 k0,.int .i64 tick,.int .i64 te,.int .i64 ce,.int .i64 ot,.int .i64 ep,.int .i64 fr,.int .i64 un,.int .i64 nn]:=by rw [hW0,hg];exact Blk.new _ _ _
   have hgj:¬Fj g:=fun hh=>by have:=hfj g hh;omega
   have hB2:=fun V W (hf:Fr No W0 V) (hj:Fr Fj V W)=>(hb.fr hf (fun h=>h)).fr hj hgj
   have hE0:=fun V (hf:Fr No W0 V)=>And.intro (hP _ (hf0.transNo hf)).1 (ent_cells (hb.fr hf (fun h=>h)))
   obtain ⟨p0,p3⟩:=hP _ hf0
   clear h8 hjr h1 h2 h3 h4 h5 h6 h7 hok hok2 hle hpr hX hr h0 hb hfj hgj hstill hr1
   have HT:=Lib.hid hT
   have HP:=Lib.hid hP
   have HA:=Lib.hid hA
   have HFIN:=Lib.hid hfin
   have HCEL:=Lib.hid hcel
   have HE0:=Lib.hid hE0
   have HB2:=Lib.hid hB2
   have HW0:=Lib.hid hW0
   have HG:=Lib.hid hg
   have HF0:=Lib.hid hf0
   clear hT hP hA hfin hcel hE0 hB2 hW0 hg hf0
   go_enter Try.func22,Try.ntmps22
   go_wp2_with fail
   rw [←HG.out,←HW0.out]
   go_wp2_with fail
   go_region_held3 (fun V=>V.cell? ⟨p,0,none⟩=some (.pointer (some ⟨j,0,none⟩))∧V.cell? ⟨g,0,none⟩=some (.int .i64 k0)∧V.cell? ⟨g,1,none⟩=some (.int .i64 tick)∧V.cell? ⟨g,2,none⟩=some (.int .i64 te)∧V.cell? ⟨g,3,none⟩=some (.int .i64 ce)∧V.cell? ⟨g,4,none⟩=some (.int .i64 ot)∧V.cell? ⟨g,5,none⟩=some (.int .i64 ep)∧V.cell? ⟨g,6,none⟩=some (.int .i64 fr)∧V.cell? ⟨g,7,none⟩=some (.int .i64 un)∧V.cell? ⟨g,8,none⟩=some (.int .i64 nn)) (first|exact ⟨p0,e0,e1,e2,e3,e4,e5,e6,e7,e8⟩|exact HE0.out _ (by repeat (first|assumption|exact Fr.refl _ _|refine Fr.alloc ?_ _|refine Fr.drew ?_|refine Fr.drewN ?_ _))) (first
    |(go_at_call 14;refine (HT.out _ (HF0.out.transNo (by repeat (first|assumption|exact Fr.refl _ _|refine Fr.alloc ?_ _|refine Fr.drew ?_|refine Fr.drewN ?_ _)))).mono ?_;rintro e w1 ⟨rfl,rfl⟩)
    |(go_at_call 37;refine (HA.out _ (HF0.out.transNo (by repeat (first|assumption|exact Fr.refl _ _|refine Fr.alloc ?_ _|refine Fr.drew ?_|refine Fr.drewN ?_ _)))).mono ?_;rintro e w2 ⟨rfl,j2⟩;obtain ⟨e0,e1,e2,e3,e4,e5,e6,e7,e8⟩:=ent_cells (HB2.out _ _ (by repeat (first|assumption|exact Fr.refl _ _|refine Fr.alloc ?_ _|refine Fr.drew ?_|refine Fr.drewN ?_ _)) (let ⟨_,_,_,g⟩:=j2;g));have p0:=HCEL.out _ _ (HF0.out.transNo (by repeat (first|assumption|exact Fr.refl _ _|refine Fr.alloc ?_ _|refine Fr.drew ?_|refine Fr.drewN ?_ _))) (let ⟨_,_,_,g⟩:=j2;g);have J2:=Lib.hid (HFIN.out _ _ (HF0.out.transNo (by repeat (first|assumption|exact Fr.refl _ _|refine Fr.alloc ?_ _|refine Fr.drew ?_|refine Fr.drewN ?_ _))) j2);clear j2))
   obtain ⟨G2,a2,k2⟩:=J2.out
   clear J2 e0 e1 e2 e3 e4 e5 e6 e7 e8
   have A2:=Lib.hid a2
   have K2:=Lib.hid k2
   clear a2 k2
   go_wp2_with fail
   refine (g_sync A2.out).mono ?_
   rintro e w3 ⟨rfl,j3⟩
   obtain ⟨G3,a3,i3,f3⟩:=K2.out _ j3
   clear j3
   have A3:=Lib.hid a3
   have I3:=Lib.hid i3
   have F3:=Lib.hid f3
   clear a3 i3 f3
   go_wp2_with fail
   refine (p_advance A3.out hr2).mono ?_
   rintro e w4 ⟨rfl,t4⟩
   obtain ⟨G4,a4,i4,f4⟩:=RTo.then F3.out I3.out t4
   have ho:=p_others_app a4 (show r1.advance.role=3 from hr2)
   have hrt:RTo w F p r1.advance (n+128) w4:=⟨G4,a4,i4,f4⟩
   change Calls _ _ _ _ (MsTo w4 r1.advance.toAll) at ho
   generalize r1.advance.toAll=ms at*
   clear t4 a4 i4 f4
   have HO:=Lib.hid ho
   have HRT:=Lib.hid hrt
   clear ho hrt
   go_wp2_with fail
   refine HO.out.mono ?_
   rintro e w5 m5
   have M:=Lib.hid m5
   obtain ⟨A5,c5,rfl,-,-⟩:=m5
   go_wp2_with fail
   go_ret2
   exact CallTo2.mk' HRT.out M.out
  ·have hpr:r.propose e=(r,[]):=by unfold Rs.propose;rw [hX,if_neg h0]
   have hA:=fun W (hf:Fr No w W)=>g_Append_no (h3.frNo hf) r.js.term e he hsz h0
   have hfin:=fun V W (hf:Fr No w V) (hj:JGTo true V Fj j r.js n W)=>(RTo.more (RTo.after hf (RAt.jrn (r:=r) (s' :=r.js) (h1.fr hf (fun h=>h)) h2 h4 h5 (fun i hi=>Nat.lt_of_lt_of_le (h6 i hi) hf.size) h7 hj hok)) (by omega):RTo w F p r (n+128) W)
   rw [hpr,hX]
   generalize addX r.js r.js.term e=X at*
   generalize r.js.term=t at*
   obtain ⟨k0,tick,te,ce,ot,ep,fr,un,nn⟩:=e
   unfold En.v at*
   simp only at*
   obtain ⟨W0,hW0⟩:∃W0,W0=w.alloc (.cells #[.int .i64 k0,.int .i64 tick,.int .i64 te,.int .i64 ce,.int .i64 ot,.int .i64 ep,.int .i64 fr,.int .i64 un,.int .i64 nn] TEnt):=⟨_,rfl⟩
   have hf0:Fr No w W0:=by rw [hW0];exact fr_alloc _ _
   obtain ⟨g,hg⟩:∃g,g=w.heap.size:=⟨_,rfl⟩
   have hb:Blk W0 g TEnt #[.int .i64 k0,.int .i64 tick,.int .i64 te,.int .i64 ce,.int .i64 ot,.int .i64 ep,.int .i64 fr,.int .i64 un,.int .i64 nn]:=by rw [hW0,hg];exact Blk.new _ _ _
   have hgj:¬Fj g:=fun hh=>by have:=hfj g hh;omega
   have hB2:=fun V W (hf:Fr No W0 V) (hj:Fr Fj V W)=>(hb.fr hf (fun h=>h)).fr hj hgj
   have hE0:=fun V (hf:Fr No W0 V)=>And.intro (hP _ (hf0.transNo hf)).1 (ent_cells (hb.fr hf (fun h=>h)))
   obtain ⟨p0,p3⟩:=hP _ hf0
   have x1:(X == 0)=false:=by simpa using h0
   have x2:(X != 0)=true:=by simpa using h0
   clear h8 h1 h2 h3 h4 h5 h6 h7 hok hok2 hle hpr hX hr h0 hb hfj hgj hstill
   have HT:=Lib.hid hT
   have HP:=Lib.hid hP
   have HA:=Lib.hid hA
   have HFIN:=Lib.hid hfin
   have HCEL:=Lib.hid hcel
   have HE0:=Lib.hid hE0
   have HB2:=Lib.hid hB2
   have HW0:=Lib.hid hW0
   have HG:=Lib.hid hg
   have HF0:=Lib.hid hf0
   clear hT hP hA hfin hcel hE0 hB2 hW0 hg hf0
   go_enter Try.func22,Try.ntmps22
   go_wp2_with fail
   rw [←HG.out,←HW0.out]
   go_wp2_with fail
   go_region_held3 (fun V=>V.cell? ⟨p,0,none⟩=some (.pointer (some ⟨j,0,none⟩))∧V.cell? ⟨g,0,none⟩=some (.int .i64 k0)∧V.cell? ⟨g,1,none⟩=some (.int .i64 tick)∧V.cell? ⟨g,2,none⟩=some (.int .i64 te)∧V.cell? ⟨g,3,none⟩=some (.int .i64 ce)∧V.cell? ⟨g,4,none⟩=some (.int .i64 ot)∧V.cell? ⟨g,5,none⟩=some (.int .i64 ep)∧V.cell? ⟨g,6,none⟩=some (.int .i64 fr)∧V.cell? ⟨g,7,none⟩=some (.int .i64 un)∧V.cell? ⟨g,8,none⟩=some (.int .i64 nn)) (first|exact ⟨p0,e0,e1,e2,e3,e4,e5,e6,e7,e8⟩|exact HE0.out _ (by repeat (first|assumption|exact Fr.refl _ _|refine Fr.alloc ?_ _|refine Fr.drew ?_|refine Fr.drewN ?_ _))) (first
    |(go_at_call 14;refine (HT.out _ (HF0.out.transNo (by repeat (first|assumption|exact Fr.refl _ _|refine Fr.alloc ?_ _|refine Fr.drew ?_|refine Fr.drewN ?_ _)))).mono ?_;rintro e w1 ⟨rfl,rfl⟩)
    |(go_at_call 37;refine (HA.out _ (HF0.out.transNo (by repeat (first|assumption|exact Fr.refl _ _|refine Fr.alloc ?_ _|refine Fr.drew ?_|refine Fr.drewN ?_ _)))).mono ?_;rintro e w2 ⟨rfl,j2⟩;obtain ⟨e0,e1,e2,e3,e4,e5,e6,e7,e8⟩:=ent_cells (HB2.out _ _ (by repeat (first|assumption|exact Fr.refl _ _|refine Fr.alloc ?_ _|refine Fr.drew ?_|refine Fr.drewN ?_ _)) (let ⟨_,_,_,g⟩:=j2;g));have p0:=HCEL.out _ _ (HF0.out.transNo (by repeat (first|assumption|exact Fr.refl _ _|refine Fr.alloc ?_ _|refine Fr.drew ?_|refine Fr.drewN ?_ _))) (let ⟨_,_,_,g⟩:=j2;g);have J2:=Lib.hid (HFIN.out _ _ (HF0.out.transNo (by repeat (first|assumption|exact Fr.refl _ _|refine Fr.alloc ?_ _|refine Fr.drew ?_|refine Fr.drewN ?_ _))) j2);clear j2))
   clear e0 e1 e2 e3 e4 e5 e6 e7 e8
   go_wp2_with fail
   go_ret2
   exact CallTo2.mk' J2.out (MsTo.none_ _)
 ·have t1:(r.role == 3)=false:=by simpa using hr
  have t2:(r.role != 3)=true:=by simpa using hr
  have hX:r.propX e=4:=by unfold Rs.propX;rw [if_pos hr]
  have hpr:r.propose e=(r,[]):=by unfold Rs.propose;rw [hX,if_neg (by decide)]
  rw [hpr,hX]
  obtain ⟨k0,tick,te,ce,ot,ep,fr,un,nn⟩:=e
  unfold En.v at*
  simp only at*
  obtain ⟨p0,p3⟩:=hP _ (fr_alloc w (.cells #[.int .i64 k0,.int .i64 tick,.int .i64 te,.int .i64 ce,.int .i64 ot,.int .i64 ep,.int .i64 fr,.int .i64 un,.int .i64 nn] TEnt))
  have S:=Lib.hid (hstill _ (fr_alloc w (.cells #[.int .i64 k0,.int .i64 tick,.int .i64 te,.int .i64 ce,.int .i64 ot,.int .i64 ep,.int .i64 fr,.int .i64 un,.int .i64 nn] TEnt)))
  clear h8 hT hP hstill h1 h2 h3 h4 h5 h6 h7 hok hok2 hle hpr hX hr
  go_enter Try.func22,Try.ntmps22
  go_wp2_with fail
  go_ret2
  exact CallTo2.mk' S.out (MsTo.none_ _)
end
end
section
theorem Ent.at_ {w:World} {G:Nat→Prop} {A:Option Addr} {n c i:Nat} {es:List Lg} (h:Ent w G (.slice A n c) es) (hi:i<es.length):
  ∃b off x,A=some ⟨b,off,none⟩∧es[i]? =some x∧∀W,Fr No w W→(W.cell? ⟨b,off+i*10,none⟩=some (.int .i64 x.term)∧W.cell? ⟨b,off+i*10+1,none⟩=some (.int .i64 x.e.kind)∧W.cell? ⟨b,off+i*10+2,none⟩=some (.int .i64 x.e.tick)∧W.cell? ⟨b,off+i*10+3,none⟩=some (.int .i64 x.e.tenant)∧W.cell? ⟨b,off+i*10+4,none⟩=some (.int .i64 x.e.cell)∧W.cell? ⟨b,off+i*10+5,none⟩=some (.int .i64 x.e.other)∧W.cell? ⟨b,off+i*10+6,none⟩=some (.int .i64 x.e.epoch)∧W.cell? ⟨b,off+i*10+7,none⟩=some (.int .i64 x.e.from_)∧W.cell? ⟨b,off+i*10+8,none⟩=some (.int .i64 x.e.until_)∧W.cell? ⟨b,off+i*10+9,none⟩=some (.int .i64 x.e.n)):=by
 obtain ⟨A',c',h1,h2,h3,h4,h5⟩:=h
 injection h1 with e1 e2 e3
 subst e1
 rcases h5 with rfl|⟨b,off,rfl,hb,hlt,hc⟩
 ·simp at hi
 obtain ⟨x,hx⟩:∃x,es[i]? =some x:=⟨_,List.getElem?_eq_getElem hi⟩
 refine ⟨b,off,x,rfl,hx,fun W hW=> ?_⟩
 have hl:=logV_len es
 have e:=fun j (hj:j<10)=>((hW.cell (p:=⟨b,off+(i*10+j),none⟩) hlt (fun h=>h)).trans (by rw [hc (i*10+j) (by omega),←List.getElem?_eq_getElem,logV_get es i j x hx hj]):W.cell? ⟨b,off+(i*10+j),none⟩=x.cells[j]?)
 exact ⟨e 0 (by omega),e 1 (by omega),e 2 (by omega),e 3 (by omega),e 4 (by omega),e 5 (by omega),e 6 (by omega),e 7 (by omega),e 8 (by omega),e 9 (by omega)⟩
section
variable {w w' :World} {F G:Nat→Prop} {p:Nat} {r:Rs} {s:Js} {n:Nat}
end
end
section
abbrev TRJ:TypeId:=53
def RJAt (w:World) (F:Nat→Prop) (j d:Nat) (xs:List UInt8) (k:Nat) (s:Js):Prop:=
 ∃v Fd,Blk w j TRJ #[.pointer (some ⟨d,0,none⟩),.int .i64 s.term,.int .i64 s.vote,v]∧F j∧OwnN w F TLg 10 v s.log.length (logV s.log)∧DskAt TRDisk w Fd d xs k∧(∀i,Fd i→F i)∧¬Fd j∧(∀g,v.ownBlock=some g→¬Fd g)∧∀i,F i→i<w.heap.size
def RJTo (w:World) (F:Nat→Prop) (j d:Nat) (xs:List UInt8) (k:Nat) (s:Js) (w' :World):Prop:=
 ∃F',RJAt w' F' j d xs k s∧(∀i,F' i→F i∨w.heap.size≤i)∧Fr F w w'
section
variable {w w' w1:World} {F G:Nat→Prop} {j d:Nat} {xs:List UInt8} {k:Nat} {s:Js}
theorem RJAt.fr (h:RJAt w F j d xs k s) (hf:Fr G w w') (hd:∀i,F i→¬G i):RJAt w' F j d xs k s:=by
 obtain ⟨v,Fd,h1,h2,h3,h4,h5,h6,h7,h8⟩:=h
 exact ⟨v,Fd,h1.fr hf (hd j h2),h2,h3.fr' hf fun g hg=>hd g (h3.2 g hg),h4.fr hf fun i hi=>hd i (h5 i hi),h5,h6,h7,fun i hi=>Nat.lt_of_lt_of_le (h8 i hi) hf.size⟩
theorem RJAt.frNo (h:RJAt w F j d xs k s) (hf:Fr No w w'):RJAt w' F j d xs k s:=h.fr hf fun _ _ hi=>hi
theorem RJAt.lt (h:RJAt w F j d xs k s):∀i,F i→i<w.heap.size:=by
 obtain ⟨v,Fd,h1,h2,h3,h4,h5,h6,h7,h8⟩:=h
 exact h8
theorem RJAt.self (h:RJAt w F j d xs k s):RJTo w F j d xs k s w:=⟨F,h,fun _ hi=> .inl hi,Fr.refl _ _⟩
theorem RJAt.open_ (h:RJAt w F j d xs k s):∃A c Fd,Blk w j TRJ #[.pointer (some ⟨d,0,none⟩),.int .i64 s.term,.int .i64 s.vote,.slice A s.log.length c]∧F j∧OwnN w F TLg 10 (.slice A s.log.length c) s.log.length (logV s.log)∧DskAt TRDisk w Fd d xs k∧(∀i,Fd i→F i)∧¬Fd j∧(∀g,Value.ownBlock (.slice A s.log.length c)=some g→¬Fd g)∧(∀i,F i→i<w.heap.size)∧
   w.cell? ⟨j,0,none⟩=some (.pointer (some ⟨d,0,none⟩))∧w.cell? ⟨j,1,none⟩=some (.int .i64 s.term)∧w.cell? ⟨j,2,none⟩=some (.int .i64 s.vote)∧w.cell? ⟨j,3,none⟩=some (.slice A s.log.length c)∧(A=none→s.log.length=0):=by
 obtain ⟨v,Fd,h1,h2,h3,h4,h5,h6,h7,h8⟩:=h
 obtain ⟨A,c,rfl,hn⟩:=h3.form
 exact ⟨A,c,Fd,h1,h2,h3,h4,h5,h6,h7,h8,h1.cell 0,h1.cell 1,h1.cell 2,h1.cell 3,hn⟩
theorem RJAt.disk {v:Value} {Fd:Nat→Prop} {ys:List UInt8} {m:Nat} (h1:Blk w j TRJ #[.pointer (some ⟨d,0,none⟩),.int .i64 s.term,.int .i64 s.vote,v]) (h2:F j) (h3:OwnN w F TLg 10 v s.log.length (logV s.log)) (h5:∀i,Fd i→F i) (h6:¬Fd j) (h7:∀g,v.ownBlock=some g→¬Fd g) (h8:∀i,F i→i<w.heap.size)
  (hd:DskTo TRDisk w Fd d ys m w'):RJTo w F j d ys m s w' :=by
 obtain ⟨Fd',g1,g2,g3⟩:=hd
 have hjl:=h8 j h2
 refine ⟨fun i=>F i∨(w.heap.size≤i∧i<w'.heap.size),⟨v,Fd',h1.fr g3 h6,.inl h2,(h3.fr' g3 h7).mono fun i hi=> .inl hi,g1,?_,?_,?_,?_⟩,?_,g3.mono h5⟩
 ·intro i hi
  have:=g1.lt i hi
  rcases g2 i hi with h|h
  ·exact .inl (h5 i h)
  ·exact .inr ⟨h,this⟩
 ·intro h
  rcases g2 j h with h|h
  ·exact h6 h
  ·omega
 ·intro g hg h
  have hl:=h3.lt g hg
  rcases g2 g h with h|h
  ·exact h7 g hg h
  ·omega
 ·intro i hi
  rcases hi with h|h
  ·exact Nat.lt_of_lt_of_le (h8 i h) g3.size
  ·exact h.2
 ·intro i hi
  rcases hi with h|h
  ·exact .inl h
  ·exact .inr h.1
theorem RJTo.trans {ys:List UInt8} {m:Nat} {s' :Js} (h:RJTo w F j d xs k s w1) (h2:∀F',RJAt w1 F' j d xs k s→RJTo w1 F' j d ys m s' w'):RJTo w F j d ys m s' w' :=by
 obtain ⟨F1,h3,h4,h5⟩:=h
 obtain ⟨F2,g3,g4,g5⟩:=h2 F1 h3
 refine ⟨F2,g3,fun i hi=> ?_,h5.trans g5 h4⟩
 rcases g4 i hi with h|h
 ·exact h4 i h
 ·exact .inr (Nat.le_trans h5.size h)
end
theorem rj_new (w:World):
  Calls Try.prog 10 #[] w fun e w' =>∃j d F,e= .returned (.pointer (some ⟨j,0,none⟩))∧RJAt w' F j d [] 0 jsNew∧(∀i,F i→w.heap.size≤i)∧Fr No w w' :=by
 go_enter Try.func10,Try.ntmps10
 go_wp2_with fail
 refine (rdisk_new _).mono ?_
 rintro e w1 ⟨rfl,h1,f1⟩
 have H1:=Lib.hid h1
 have F1:=Lib.hid f1
 clear h1 f1
 go_wp2_with fail
 go_ret
 have hs:=F1.out.size
 have hd:=H1.out.lt w.heap.size rfl
 refine ⟨w1.heap.size,w.heap.size,fun i=>i=w.heap.size∨i=w1.heap.size,rfl,⟨.slice none 0 0,fun i=>i=w.heap.size,Blk.new _ _ _,.inr rfl,OwnN.nil _ _ _ _,H1.out.frNo (fr_alloc _ _),fun i hi=> .inl hi,?_,fun g hg=>(by cases hg),?_⟩,?_,F1.out.alloc _⟩
 ·intro h
  omega
 ·intro i hi
  simp
  omega
 ·intro i hi
  omega
set_option maxHeartbeats 2000000 in
theorem rj_at {w:World} {F:Nat→Prop} {j d:Nat} {xs:List UInt8} {k:Nat} {s:Js} (h:RJAt w F j d xs k s) (i:Int):
  Calls Try.prog 12 #[.pointer (some ⟨j,0,none⟩),.int .i64 i] w fun e w' =>e= .returned (.tuple #[(atJ s.log i).1.v,.bool (atJ s.log i).2])∧Fr No w w' :=by
 obtain ⟨A,c,Fd,h1,h2,h3,h4,h5,h6,h7,h8,c0,c1,c2,c3,hn⟩:=h.open_
 have hjl:=h1.lt
 clear h h1 h2 h4 h5 h6 h7 h8
 by_cases h0:i<0
 ·have ha:atJ s.log i=(lgZero,false):=by unfold atJ;rw [if_neg (by omega)]
  rw [ha]
  have t1:decide (i<0)=true:=by simpa using h0
  clear ha hn h3
  go_enter Try.func12,Try.ntmps12
  go_wp2_with fail
  refine bodyPost_ret (v:= .tuple #[.agg _,.bool false]) (by simp [results,Try.results12,go_sem]) rfl ⟨rfl,?_⟩
  exact fr_alloc _ _
 ·have t1:decide (i<0)=false:=by simpa using h0
  obtain ⟨n,rfl⟩:∃n:Nat,i=(n:Int):=⟨i.toNat,by omega⟩
  by_cases h9:s.log.length≤n
  ·have ha:atJ s.log (n:Int)=(lgZero,false):=by unfold atJ;rw [if_pos (by omega),Int.toNat_natCast,List.getElem?_eq_none h9]
   rw [ha]
   have t2:decide ((s.log.length:Int)≤(n:Int))=true:=by simpa using h9
   clear ha hn h3
   go_enter Try.func12,Try.ntmps12
   go_wp2_with fail
   refine bodyPost_ret (v:= .tuple #[.agg _,.bool false]) (by simp [results,Try.results12,go_sem]) rfl ⟨rfl,?_⟩
   exact fr_alloc _ _
  ·obtain ⟨x,hx⟩:∃x,s.log[n]? =some x:=⟨_,List.getElem?_eq_getElem (by omega)⟩
   have ha:atJ s.log (n:Int)=(x,true):=by unfold atJ;rw [if_pos (by omega),Int.toNat_natCast,hx]
   rw [ha]
   have t2:decide ((s.log.length:Int)≤(n:Int))=false:=by simp;omega
   obtain ⟨b,rfl,hb,-,hc⟩:=h3.head (by omega)
   have hlt:n<s.log.length:=by omega
   have e0:w.cell? ⟨b,n*10,none⟩=some (.int .i64 x.term):=by rw [←Nat.add_zero (n*10),hc _ (by rw [logV_len];omega),logV_get s.log n 0 x hx (by omega)];rfl
   have e1:w.cell? ⟨b,n*10+1,none⟩=some (.int .i64 x.e.kind):=by rw [hc _ (by rw [logV_len];omega),logV_get s.log n 1 x hx (by omega)];rfl
   have e2:w.cell? ⟨b,n*10+2,none⟩=some (.int .i64 x.e.tick):=by rw [hc _ (by rw [logV_len];omega),logV_get s.log n 2 x hx (by omega)];rfl
   have e3:w.cell? ⟨b,n*10+3,none⟩=some (.int .i64 x.e.tenant):=by rw [hc _ (by rw [logV_len];omega),logV_get s.log n 3 x hx (by omega)];rfl
   have e4:w.cell? ⟨b,n*10+4,none⟩=some (.int .i64 x.e.cell):=by rw [hc _ (by rw [logV_len];omega),logV_get s.log n 4 x hx (by omega)];rfl
   have e5:w.cell? ⟨b,n*10+5,none⟩=some (.int .i64 x.e.other):=by rw [hc _ (by rw [logV_len];omega),logV_get s.log n 5 x hx (by omega)];rfl
   have e6:w.cell? ⟨b,n*10+6,none⟩=some (.int .i64 x.e.epoch):=by rw [hc _ (by rw [logV_len];omega),logV_get s.log n 6 x hx (by omega)];rfl
   have e7:w.cell? ⟨b,n*10+7,none⟩=some (.int .i64 x.e.from_):=by rw [hc _ (by rw [logV_len];omega),logV_get s.log n 7 x hx (by omega)];rfl
   have e8:w.cell? ⟨b,n*10+8,none⟩=some (.int .i64 x.e.until_):=by rw [hc _ (by rw [logV_len];omega),logV_get s.log n 8 x hx (by omega)];rfl
   have e9:w.cell? ⟨b,n*10+9,none⟩=some (.int .i64 x.e.n):=by rw [hc _ (by rw [logV_len];omega),logV_get s.log n 9 x hx (by omega)];rfl
   clear ha hn h3 hc h9
   have HX:=Lib.hid hx
   clear hx
   go_enter Try.func12,Try.ntmps12
   go_wp2_with fail
   refine bodyPost_ret (v:= .tuple #[.agg _,.bool true]) (by simp [results,Try.results12,go_sem]) rfl ⟨rfl,?_⟩
   exact fr_alloc _ _
section
variable {w:World} {F:Nat→Prop} {j d:Nat} {xs:List UInt8} {k:Nat} {s:Js} {v:Value} {Fd:Nat→Prop}
theorem RJAt.setTV (t u:Int) (h1:Blk w j TRJ #[.pointer (some ⟨d,0,none⟩),.int .i64 s.term,.int .i64 s.vote,v]) (h2:F j) (h3:OwnN w F TLg 10 v s.log.length (logV s.log)) (h4:DskAt TRDisk w Fd d xs k) (h5:∀i,Fd i→F i) (h6:¬Fd j) (h7:∀g,v.ownBlock=some g→¬Fd g) (h8:∀i,F i→i<w.heap.size):
  RJTo w F j d xs k ⟨t,u,s.log⟩ ((w.setCell ⟨j,1,none⟩ (.int .i64 t)).setCell ⟨j,2,none⟩ (.int .i64 u)):=by
 have hf:Fr (fun i=>i=j) w ((w.setCell ⟨j,1,none⟩ (.int .i64 t)).setCell ⟨j,2,none⟩ (.int .i64 u)):=((Fr.refl (fun i=>i=j) w).setCell (p:=⟨j,1,none⟩) (.inl rfl) _).setCell (p:=⟨j,2,none⟩) (.inl rfl) _
 refine ⟨F,⟨v,Fd,(h1.set_ 1 _).set_ 2 _,h2,h3.fr' hf (h3.ne_blk h1 (by decide)),h4.fr hf (fun i hi he=>h6 (he▸hi)),h5,h6,h7,fun i hi=>Nat.lt_of_lt_of_le (h8 i hi) hf.size⟩,fun i hi=> .inl hi,hf.mono fun i hi=>hi▸h2⟩
theorem RJAt.setLog {v' :Value} {l:List Lg} (h1:Blk w j TRJ #[.pointer (some ⟨d,0,none⟩),.int .i64 s.term,.int .i64 s.vote,v]) (h2:F j) (h3:OwnN w F TLg 10 v' l.length (logV l)) (h4:DskAt TRDisk w Fd d xs k) (h5:∀i,Fd i→F i) (h6:¬Fd j) (h7:∀g,v'.ownBlock=some g→¬Fd g) (h8:∀i,F i→i<w.heap.size):
  RJTo w F j d xs k ⟨s.term,s.vote,l⟩ (w.setCell ⟨j,3,none⟩ v'):=by
 have hf:Fr (fun i=>i=j) w (w.setCell ⟨j,3,none⟩ v'):=(Fr.refl (fun i=>i=j) w).setCell (p:=⟨j,3,none⟩) (.inl rfl) _
 refine ⟨F,⟨v',Fd,h1.set_ 3 _,h2,h3.fr' hf (h3.ne_blk h1 (by decide)),h4.fr hf (fun i hi he=>h6 (he▸hi)),h5,h6,h7,fun i hi=>Nat.lt_of_lt_of_le (h8 i hi) hf.size⟩,fun i hi=> .inl hi,hf.mono fun i hi=>hi▸h2⟩
end
theorem RJAt.still {w w' :World} {F:Nat→Prop} {j d:Nat} {xs:List UInt8} {k:Nat} {s:Js} (h:RJAt w F j d xs k s) (hf:Fr No w w'):RJTo w F j d xs k s w' :=⟨F,h.frNo hf,fun _ hi=> .inl hi,hf.mono fun _ hi=>hi.elim⟩
theorem RJTo.after {w w1 w' :World} {F:Nat→Prop} {j d:Nat} {xs:List UInt8} {k:Nat} {s:Js} (hf:Fr No w w1) (h:RJTo w1 F j d xs k s w'):RJTo w F j d xs k s w' :=by
 obtain ⟨F',h1,h2,h3⟩:=h
 exact ⟨F',h1,fun i hi=>(h2 i hi).imp id (Nat.le_trans hf.size),(hf.mono (G:=F) fun _ hi=>hi.elim).trans h3 fun i hi=> .inl hi⟩
theorem RJTo.then {w w1 w' :World} {F F1:Nat→Prop} {j d:Nat} {ys:List UInt8} {m:Nat} {s' :Js} (hf:Fr F w w1) (hi:∀i,F1 i→F i∨w.heap.size≤i) (h:RJTo w1 F1 j d ys m s' w'):RJTo w F j d ys m s' w' :=by
 obtain ⟨F2,g3,g4,g5⟩:=h
 exact ⟨F2,g3,fun i h=>(g4 i h).elim (fun h=>hi i h) (fun h=> .inr (Nat.le_trans hf.size h)),hf.trans g5 hi⟩
end
section
theorem OwnN.appendedNew {w w' :World} {B:Nat} {e:TypeId} {size n:Nat} {v:Value} {xs:List Value} (h:OwnN w (fun i=>B≤i) e size v n xs) (hB:B≤w.heap.size) {news:List Value} {m:Nat} {v' :Value} (ha:AppendedN w 0 e size v n xs news m v' w'):
  OwnN w' (fun i=>B≤i) e size v' (n+m) (xs++news)∧Fr (fun i=>B≤i) w w' :=by
 obtain ⟨h1,h2⟩:=h.appended ha
 exact ⟨h1.mono fun i hi=>by rcases hi with hi|hi<;>omega,h2⟩
end
section
theorem RJAt.bytes {w:World} {F:Nat→Prop} {j d:Nat} {xs:List UInt8} {k:Nat} {s:Js} (h:RJAt w F j d xs k s):
  ∃A c,w.cell? ⟨d,0,none⟩=some (.slice A xs.length c)∧(A=none→xs.length=0)∧xs.length≤c∧Rd w w.heap.size A (xs.map bv)∧Own w F 5 (.slice A xs.length c) (xs.map bv):=by
 obtain ⟨v,Fd,h1,h2,h3,h4,h5,h6,h7,h8⟩:=h
 obtain ⟨A,c,g1,g2,g3,g4,g5,c0,c1,f0,f1,hn,hcap⟩:=h4.open_
 exact ⟨A,c,c0,hn,hcap,g3.rd,g3.mono h5⟩
theorem RJTo.own {w0 w1 w' :World} {F:Nat→Prop} {j d:Nat} {xs:List UInt8} {k:Nat} {s:Js} (h:RJTo w1 F j d xs k s w') (hf:Fr No w0 w1) (hN:∀i,F i→w0.heap.size≤i):∃F',RJAt w' F' j d xs k s∧(∀i,F' i→w0.heap.size≤i)∧Fr No w0 w' :=by
 obtain ⟨F',g1,g2,g3⟩:=h
 exact ⟨F',g1,fun i hi=>(g2 i hi).elim (fun h=>hN i h) (fun h=>Nat.le_trans hf.size h),hf.transNew g3 hN⟩
end
section
def RG (y:Bool) (w:World) (F:Nat→Prop) (j:Nat) (s:Js) (n:Nat):Prop:=
 ∃d xs k rs,RJAt w F j d xs k s∧Good xs s rs∧s.log.length≤4096∧xs.length≤n∧(y=true→k=xs.length)
def RGTo (y:Bool) (w:World) (F:Nat→Prop) (j:Nat) (s:Js) (n:Nat) (w' :World):Prop:=
 ∃F',RG y w' F' j s n∧(∀i,F' i→F i∨w.heap.size≤i)∧Fr F w w'
section
variable {y:Bool} {w w' w1:World} {F G:Nat→Prop} {j:Nat} {s s' :Js} {n m:Nat}
theorem RG.fr (h:RG y w F j s n) (hf:Fr G w w') (hd:∀i,F i→¬G i):RG y w' F j s n:=by
 obtain ⟨d,xs,k,rs,h1,h2⟩:=h
 exact ⟨d,xs,k,rs,h1.fr hf hd,h2⟩
theorem RG.frNo (h:RG y w F j s n) (hf:Fr No w w'):RG y w' F j s n:=h.fr hf fun _ _ hi=>hi
theorem RG.lt (h:RG y w F j s n):∀i,F i→i<w.heap.size:=by
 obtain ⟨d,xs,k,rs,h1,h2⟩:=h
 exact h1.lt
theorem RG.more (h:RG y w F j s n) (hn:n≤m):RG y w F j s m:=by
 obtain ⟨d,xs,k,rs,h1,h2,h3,h4,h5⟩:=h
 exact ⟨d,xs,k,rs,h1,h2,h3,Nat.le_trans h4 hn,h5⟩
theorem RG.few (h:RG y w F j s n):s.log.length≤4096:=by
 obtain ⟨d,xs,k,rs,h1,h2,h3,h4,h5⟩:=h
 exact h3
theorem RG.self (h:RG y w F j s n):RGTo y w F j s n w:=⟨F,h,fun _ hi=> .inl hi,Fr.refl _ _⟩
theorem RG.still (h:RG y w F j s n) (hf:Fr No w w'):RGTo y w F j s n w' :=⟨F,h.frNo hf,fun _ hi=> .inl hi,hf.mono fun _ hi=>hi.elim⟩
theorem RGTo.trans {y' :Bool} (h:RGTo y w F j s n w1) (h2:∀F',RG y w1 F' j s n→RGTo y' w1 F' j s' m w'):RGTo y' w F j s' m w' :=by
 obtain ⟨F1,h3,h4,h5⟩:=h
 obtain ⟨F2,g3,g4,g5⟩:=h2 F1 h3
 refine ⟨F2,g3,fun i hi=> ?_,h5.trans g5 h4⟩
 rcases g4 i hi with h|h
 ·exact h4 i h
 ·exact .inr (Nat.le_trans h5.size h)
theorem RGTo.own {w0:World} (h:RGTo y w1 F j s n w') (hf:Fr No w0 w1) (hN:∀i,F i→w0.heap.size≤i):∃F',RG y w' F' j s n∧(∀i,F' i→w0.heap.size≤i)∧Fr No w0 w' :=by
 obtain ⟨F',g1,g2,g3⟩:=h
 exact ⟨F',g1,fun i hi=>(g2 i hi).elim (fun h=>hN i h) (fun h=>Nat.le_trans hf.size h),hf.transNew g3 hN⟩
theorem RGTo.of {d:Nat} {xs:List UInt8} {k:Nat} {rs:List (List UInt8)} (h:RJTo w F j d xs k s w') (hg:Good xs s rs) (hl:s.log.length≤4096) (hn:xs.length≤n) (hy:y=true→k=xs.length):RGTo y w F j s n w' :=by
 obtain ⟨F',g1,g2,g3⟩:=h
 exact ⟨F',⟨d,xs,k,rs,g1,hg,hl,hn,hy⟩,g2,g3⟩
end
section
variable {y:Bool} {w w' w1:World} {F G:Nat→Prop} {j:Nat} {s:Js} {n:Nat}
theorem rg_at (h:RG y w F j s n) (i:Int):Calls Try.prog 12 #[.pointer (some ⟨j,0,none⟩),.int .i64 i] w fun e w' =>e= .returned (.tuple #[(atJ s.log i).1.v,.bool (atJ s.log i).2])∧Fr No w w' :=by
 obtain ⟨d,xs,k,rs,h1,h2⟩:=h
 exact rj_at h1 i
theorem RG.open_ (h:RG y w F j s n):∃d A c,Blk w j TRJ #[.pointer (some ⟨d,0,none⟩),.int .i64 s.term,.int .i64 s.vote,.slice A s.log.length c]∧F j∧OwnN w F TLg 10 (.slice A s.log.length c) s.log.length (logV s.log):=by
 obtain ⟨d,xs,k,rs,h1,h2,h3,h4,h5⟩:=h
 obtain ⟨A,c,Fd,b1,b2,b3,-⟩:=h1.open_
 exact ⟨d,A,c,b1,b2,b3⟩
end
end
section
abbrev TRR:TypeId:=43
theorem p_new_bad (id n:Int) (w:World) (hn:¬(n=1∨n=3∨n=5)):Calls Try.prog 4 #[.int .i64 id,.int .i64 n] w fun e w' =>e= .returned (.tuple #[.pointer none,.int .i64 1])∧w=w' :=by
 have hc:n<1∨(1≤n∧5<n)∨n=2∨n=4:=by omega
 rcases hc with h1|⟨h1,h2⟩|rfl|rfl
 ·have t1:decide (n<1)=true:=decide_eq_true h1
  clear hn
  go_enter Try.func4,Try.ntmps4
  go_wp2_with fail
  go_ret2
  exact ⟨rfl,rfl⟩
 ·have t1:decide (n<1)=false:=decide_eq_false (by omega)
  have t2:decide (5<n)=true:=decide_eq_true h2
  clear hn
  go_enter Try.func4,Try.ntmps4
  go_wp2_with fail
  go_ret2
  exact ⟨rfl,rfl⟩
 ·clear hn
  go_enter Try.func4,Try.ntmps4
  go_wp2_with fail
  go_ret2
  exact ⟨rfl,rfl⟩
 ·clear hn
  go_enter Try.func4,Try.ntmps4
  go_wp2_with fail
  go_ret2
  exact ⟨rfl,rfl⟩
theorem p_new_bad2 (id:Int) (n:Nat) (w:World) (hn:n≤5) (hodd:n % 2=1) (hid:id<0∨(n:Int)≤id):Calls Try.prog 4 #[.int .i64 id,.int .i64 (n:Int)] w fun e w' =>e= .returned (.tuple #[.pointer none,.int .i64 1])∧w=w' :=by
 have t1:decide ((n:Int)<1)=false:=by simp;omega
 have t2:decide (5<(n:Int))=false:=by simp;omega
 have t3:((n:Int) % 2 == 0)=false:=by simp;omega
 rcases hid with h|h
 ·have t4:decide (id<0)=true:=decide_eq_true h
  go_enter Try.func4,Try.ntmps4
  go_wp2_with fail
  go_ret2
  exact ⟨rfl,rfl⟩
 ·have t4:decide (id<0)=false:=decide_eq_false (by omega)
  have t5:decide ((n:Int)≤id)=true:=decide_eq_true h
  go_enter Try.func4,Try.ntmps4
  go_wp2_with fail
  go_ret2
  exact ⟨rfl,rfl⟩
theorem rp_new_no (id n:Int) (w:World) (hn:¬(n=1∨n=3∨n=5)):Calls Try.prog 5 #[.int .i64 id,.int .i64 n] w fun e w' =>e= .returned (.tuple #[.pointer none,.int .i64 1])∧w=w' :=by
 have hc:n<1∨(1≤n∧5<n)∨n=2∨n=4:=by omega
 rcases hc with h1|⟨h1,h2⟩|rfl|rfl
 ·have t1:decide (n<1)=true:=decide_eq_true h1
  clear hn
  go_enter Try.func5,Try.ntmps5
  go_wp2_with fail
  go_ret2
  exact ⟨rfl,rfl⟩
 ·have t1:decide (n<1)=false:=decide_eq_false (by omega)
  have t2:decide (5<n)=true:=decide_eq_true h2
  clear hn
  go_enter Try.func5,Try.ntmps5
  go_wp2_with fail
  go_ret2
  exact ⟨rfl,rfl⟩
 ·clear hn
  go_enter Try.func5,Try.ntmps5
  go_wp2_with fail
  go_ret2
  exact ⟨rfl,rfl⟩
 ·clear hn
  go_enter Try.func5,Try.ntmps5
  go_wp2_with fail
  go_ret2
  exact ⟨rfl,rfl⟩
theorem rp_new_no2 (id:Int) (n:Nat) (w:World) (hn:n≤5) (hodd:n % 2=1) (hid:id<0∨(n:Int)≤id):Calls Try.prog 5 #[.int .i64 id,.int .i64 (n:Int)] w fun e w' =>e= .returned (.tuple #[.pointer none,.int .i64 1])∧w=w' :=by
 have t1:decide ((n:Int)<1)=false:=by simp;omega
 have t2:decide (5<(n:Int))=false:=by simp;omega
 have t3:((n:Int) % 2 == 0)=false:=by simp;omega
 rcases hid with h|h
 ·have t4:decide (id<0)=true:=decide_eq_true h
  go_enter Try.func5,Try.ntmps5
  go_wp2_with fail
  go_ret2
  exact ⟨rfl,rfl⟩
 ·have t4:decide (id<0)=false:=decide_eq_false (by omega)
  have t5:decide ((n:Int)≤id)=true:=decide_eq_true h
  go_enter Try.func5,Try.ntmps5
  go_wp2_with fail
  go_ret2
  exact ⟨rfl,rfl⟩
def RNew (w:World) (F:Nat→Prop) (p:Nat) (id n:Nat):Prop:=∃j d Fj,Blk w p TRR #[.pointer (some ⟨j,0,none⟩),.int .i64 (id:Int),.int .i64 (n:Int),.int .i64 1,.int .i64 0,.slice none 0 0,.slice none 0 0,.slice none 0 0]∧F p∧RJAt w Fj j d [] 0 jsNew∧(∀i,Fj i→F i)∧(∀i,F i→i<w.heap.size)∧¬Fj p
set_option maxHeartbeats 1000000 in
theorem rp_new (id n:Nat) (w:World) (hid:id<n) (hn:n≤5) (hodd:n % 2=1):Calls Try.prog 5 #[.int .i64 (id:Int),.int .i64 (n:Int)] w fun e w' =>∃p F,e= .returned (.tuple #[.pointer (some ⟨p,0,none⟩),.int .i64 0])∧RNew w' F p id n∧(∀i,F i→w.heap.size≤i)∧Fr No w w' :=by
 have t1:decide ((n:Int)<1)=false:=by simp;omega
 have t2:decide (5<(n:Int))=false:=by simp;omega
 have t3:((n:Int) % 2 == 0)=false:=by simp;omega
 have t4:decide ((id:Int)<0)=false:=by simp
 have t5:decide (n≤id)=false:=by simp;omega
 go_enter Try.func5,Try.ntmps5
 go_wp2_with fail
 refine (rj_new _).mono ?_
 rintro e w1 ⟨j,d,G,rfl,a1,n1,f1⟩
 have A1:=Lib.hid a1
 have N1:=Lib.hid n1
 have F1:=Lib.hid f1
 clear a1 n1 f1
 go_wp2_with fail
 go_ret2
 have hs:=F1.out.size
 have hl:=A1.out.lt
 refine ⟨w1.heap.size,fun i=>G i∨i=w1.heap.size,rfl,⟨j,d,G,Blk.new _ _ _,.inr rfl,A1.out.frNo (fr_alloc _ _),fun i hi=> .inl hi,fun i hi=> ?_,fun hi=>Nat.lt_irrefl _ (hl _ hi)⟩,fun i hi=> ?_,F1.out.alloc _⟩
 ·rcases hi with hi|hi
  ·have:=hl i hi;simp;omega
  ·simp;omega
 ·rcases hi with hi|hi
  ·exact N1.out i hi
  ·omega
end
end Go.Proofs.Ytjnfmfmglehmbaa
