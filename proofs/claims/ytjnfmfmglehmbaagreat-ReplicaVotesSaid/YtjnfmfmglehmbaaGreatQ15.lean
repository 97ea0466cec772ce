/-
  The contracts of both Reads of an entry.
-/
import Derived.Test.YtjnfmfmglehmbaaGreatQ14
import Derived.Test.YtjnfmfmglehmbaaGreatQ10
namespace Go.Proofs.YtjnfmfmglehmbaaGreat
open Go.ChangeShapes Go.WideShapes Go.ChangeAt Go.RowKit
set_option linter.unusedVariables false
set_option maxRecDepth 100000
set_option maxHeartbeats 4000000
abbrev T9:TypeId:=151
abbrev fZ:En:=⟨0,0,0,0,0,0,0,0,0⟩
structure RdT where
 e:En
 k:Nat
 x:Int
def agk (t:amo):RdT:=if t.e=0 then (if dW (En.of t.q) then ⟨En.of t.q,t.k,0⟩ else ⟨fZ,0,18⟩) else ⟨fZ,0,t.e⟩
def jK (l:List UInt8):RdT:=agk (lF 9 l 0 [])
def uo (acc:List Int):Array Value:=((acc++List.replicate (9-acc.length) 0).map iv).toArray
theorem vU (acc:List Int)(k:Nat)(hk:k<9)(hl:acc.length=k):(uo acc)[k]? =some (.int .i64 0):=by
 unfold uo;rw [List.getElem?_toArray,List.getElem?_map,List.getElem?_append_right oy,List.getElem?_replicate];rw [if_pos oy]
 rfl
theorem vT (acc:List Int)(x:Int)(h:acc.length<9):(uo acc).setIfInBounds acc.length (.int .i64 x)=uo (acc++[x]):=by
 unfold uo;rw [List.setIfInBounds_toArray,List.length_append,List.length_singleton]
 congr 1
 obtain ⟨m,hm⟩:∃m,9-acc.length=m+1:=⟨8-acc.length,by omega⟩;rw [hm,show 9-(acc.length+1)=m from by omega,List.replicate_succ,List.map_append,List.map_cons,List.map_append,List.map_append];rw [List.set_append_right _ _ (by rw [List.length_map];exact Nat.le_refl _),List.length_map,Nat.sub_self,List.set_cons_zero,List.append_assoc]
 rfl
theorem kY {Z:World}{q:Nat}(e:En)(h:Blk Z q dR #[.int .i64 0,.int .i64 0,.int .i64 0,.int .i64 0,.int .i64 0,.int .i64 0,.int .i64 0,.int .i64 0,.int .i64 0]):Blk (World.setCell (World.setCell (World.setCell (World.setCell (World.setCell (World.setCell (World.setCell (World.setCell (World.setCell Z ⟨q,0,none⟩ (.int .i64 e.kind)) ⟨q,1,none⟩ (.int .i64 e.tick)) ⟨q,2,none⟩ (.int .i64 e.aS)) ⟨q,3,none⟩ (.int .i64 e.cell)) ⟨q,4,none⟩ (.int .i64 e.other)) ⟨q,5,none⟩ (.int .i64 e.epoch)) ⟨q,6,none⟩ (.int .i64 e.from_)) ⟨q,7,none⟩ (.int .i64 e.bA)) ⟨q,8,none⟩ (.int .i64 e.n)) q dR #[.int .i64 e.kind,.int .i64 e.tick,.int .i64 e.aS,.int .i64 e.cell,.int .i64 e.other,.int .i64 e.epoch,.int .i64 e.from_,.int .i64 e.bA,.int .i64 e.n]:=by
 refine Blk.conv (Blk.aU (Blk.aU (Blk.aU (Blk.aU (Blk.aU (Blk.aU (Blk.aU (Blk.aU (Blk.aU h 0 (.int .i64 e.kind)) 1 (.int .i64 e.tick)) 2 (.int .i64 e.aS)) 3 (.int .i64 e.cell)) 4 (.int .i64 e.other)) 5 (.int .i64 e.epoch)) 6 (.int .i64 e.from_)) 7 (.int .i64 e.bA)) 8 (.int .i64 e.n)) ?_;simp only [List.setIfInBounds_toArray,List.set_cons_zero,List.set_cons_succ]
theorem eH {w Z:World}{q:Nat}(e:En)(h:Fr No w Z)(hq:w.heap.size≤q):Fr No w (World.setCell (World.setCell (World.setCell (World.setCell (World.setCell (World.setCell (World.setCell (World.setCell (World.setCell Z ⟨q,0,none⟩ (.int .i64 e.kind)) ⟨q,1,none⟩ (.int .i64 e.tick)) ⟨q,2,none⟩ (.int .i64 e.aS)) ⟨q,3,none⟩ (.int .i64 e.cell)) ⟨q,4,none⟩ (.int .i64 e.other)) ⟨q,5,none⟩ (.int .i64 e.epoch)) ⟨q,6,none⟩ (.int .i64 e.from_)) ⟨q,7,none⟩ (.int .i64 e.bA)) ⟨q,8,none⟩ (.int .i64 e.n)):=(Fr.setCell (Fr.setCell (Fr.setCell (Fr.setCell (Fr.setCell (Fr.setCell (Fr.setCell (Fr.setCell (Fr.setCell h (p:=⟨q,0,none⟩) (.inr hq) (.int .i64 e.kind)) (p:=⟨q,1,none⟩) (.inr hq) (.int .i64 e.tick)) (p:=⟨q,2,none⟩) (.inr hq) (.int .i64 e.aS)) (p:=⟨q,3,none⟩) (.inr hq) (.int .i64 e.cell)) (p:=⟨q,4,none⟩) (.inr hq) (.int .i64 e.other)) (p:=⟨q,5,none⟩) (.inr hq) (.int .i64 e.epoch)) (p:=⟨q,6,none⟩) (.inr hq) (.int .i64 e.from_)) (p:=⟨q,7,none⟩) (.inr hq) (.int .i64 e.bA)) (p:=⟨q,8,none⟩) (.inr hq) (.int .i64 e.n))
theorem ak5 (l:List Int)(h:l.length=9):∃a0 a1 a2 a3 a4 a5 a6 a7 a8,l=[a0,a1,a2,a3,a4,a5,a6,a7,a8]:=by
 match l,h with
 |[a0,a1,a2,a3,a4,a5,a6,a7,a8],_=>exact ⟨a0,a1,a2,a3,a4,a5,a6,a7,a8,rfl⟩
def akg (w:World)(t:RdT)(r:Ending)(w' :World):Prop:=r= .returned (.tuple #[t.e.v,.int .i64 (t.k:Int),.int .i64 t.x])∧Fr No w w'
theorem jU (e:En)(g:Nat)(x y:Value)(ts:Array Value)(W:World)(hb:Blk W g dR #[.int .i64 e.kind,.int .i64 e.tick,.int .i64 e.aS,.int .i64 e.cell,.int .i64 e.other,.int .i64 e.epoch,.int .i64 e.from_,.int .i64 e.bA,.int .i64 e.n])(h2:ts[2]?.getD undef= .pointer (some ⟨g,0,none⟩))(h3:ts[3]?.getD undef=x)(h4:ts[4]?.getD undef=y):
  (results Tryz.f161 ts).run Tryz.prog W= .ok (.tuple #[e.v,x,y]) W:=by
 obtain ⟨c0,c1,c2,c3,c4,c5,c6,c7,c8⟩:=aB hb;clear hb
 simp [results,Tryz.results161,go_sem,h2,h3,h4,En.v,c0,c1,c2,c3,c4,c5,c6,c7,c8]
theorem jy (e:En)(g:Nat)(x y:Value)(ts:Array Value)(W:World)(hb:Blk W g dR #[.int .i64 e.kind,.int .i64 e.tick,.int .i64 e.aS,.int .i64 e.cell,.int .i64 e.other,.int .i64 e.epoch,.int .i64 e.from_,.int .i64 e.bA,.int .i64 e.n])(h2:ts[2]?.getD undef= .pointer (some ⟨g,0,none⟩))(h3:ts[3]?.getD undef=x)(h4:ts[4]?.getD undef=y):
  (results Tryz.f165 ts).run Tryz.prog W= .ok (.tuple #[e.v,x,y]) W:=by
 obtain ⟨c0,c1,c2,c3,c4,c5,c6,c7,c8⟩:=aB hb;clear hb
 simp [results,Tryz.results165,go_sem,h2,h3,h4,En.v,c0,c1,c2,c3,c4,c5,c6,c7,c8]
theorem afr (A:Option Addr)(n c:Nat)(l:List UInt8)(w:World)(B:Nat)(hA:A=none→n=0)(hl:l.length=n)(hm:n≤maxLen)(hnc:n≤c)(hr:Rd w B A (l.map bv))(hB:B≤w.heap.size):
  Calls Tryz.prog 161 #[.slice A n c] w (akg w (jK l)):=by
 obtain ⟨u0,hu0,gz0,gz1,gz2⟩:=info_parts bD;obtain ⟨T,hT⟩:∃T,T=lF 9 l 0 []:=⟨_,rfl⟩;unfold jK;rw [←hT];have hM:=hm;unfold maxLen at hm;obtain ⟨HA,HL,HR,HT⟩:=fK hA hl hr hT;clear hA hl hr hT
 go_in
 go_wp2_with fail
 obtain ⟨W,hW⟩:∃W,W=(w.alloc (.cells #[.int .i64 0,.int .i64 0,.int .i64 0,.int .i64 0,.int .i64 0,.int .i64 0,.int .i64 0,.int .i64 0,.int .i64 0] dR)).alloc (.cells #[.int .i64 0,.int .i64 0,.int .i64 0,.int .i64 0,.int .i64 0,.int .i64 0,.int .i64 0,.int .i64 0,.int .i64 0] T9):=⟨_,rfl⟩;rw [←hW];have b2:Blk W w.heap.size dR #[.int .i64 0,.int .i64 0,.int .i64 0,.int .i64 0,.int .i64 0,.int .i64 0,.int .i64 0,.int .i64 0,.int .i64 0]:=by rw [hW];exact (Blk.new _ _ _).dH _
 have b5:Blk W (w.heap.size+1) T9 (uo []):=by rw [hW];exact Blk.new' _ _ _ _ (by simp)
 have hF:Fr No w W:=by rw [hW];exact (aj w _).alloc _
 obtain ⟨g2,hg2⟩:∃g,g=w.heap.size:=⟨_,rfl⟩;obtain ⟨g5,hg5⟩:∃g,g=w.heap.size+1:=⟨_,rfl⟩;rw [←hg2] at b2;rw [←hg5] at b5;rw [←hg5,←hg2];have n2:w.heap.size≤g2:=by omega
 have n5:w.heap.size≤g5:=by omega
 have n25:g2≠g5:=by omega
 have n52:g5≠g2:=by omega
 clear hW hg2 hg5;obtain ⟨B2,B5,HF⟩:=bP b2 b5 hF;clear b2 b5 hF
 go_loopw [6,12] (fun p i wr=>∃(k pp:Nat) (acc:List Int),k≤9∧i= .int .i64 k∧p= .int .i64 pp∧pp≤n∧acc.length=k∧Blk wr g2 dR #[.int .i64 0,.int .i64 0,.int .i64 0,.int .i64 0,.int .i64 0,.int .i64 0,.int .i64 0,.int .i64 0,.int .i64 0]∧Blk wr g5 T9 (uo acc)∧Fr No w wr∧T=lF (9-k) l pp acc) (fun _ i _=>9-(intOf i).toNat)
 case atStart=>exact ⟨0,0,[],Nat.zero_le _,rfl,rfl,Nat.zero_le _,rfl,B2.out,B5.out,HF.out,HT.out⟩
 case round=>
  obtain ⟨k,pp,acc,hk,rfl,rfl,hpp,hacc,hb2,hb5,hf,hg⟩:=hrel;clear HT B2 B5 HF
  by_cases hlt:k<9
  ·obtain ⟨A2,hs2,hn2,hr2⟩:=jw (P:=Tryz.prog) 128 5 Tryz.underlying128 u0 hu0 gz1 A n c pp hpp HA.out
   have hr3:=hr2 wr B (l.map bv) (by rw [List.length_map,HL.out];exact hnc) (HR.out.ak hf hB);rw [←List.map_drop] at hr3;have hC2:=iT A2 (n-pp) (c-pp) (l.drop pp) wr B (by rw [List.length_drop,HL.out]) mxl hr3;have hk2:=oz (l.drop pp);rw [List.length_drop,HL.out] at hk2;rw [show 9-k=(9-k-1)+1 from by omega,lF] at hg;generalize dw (l.drop pp)=t at*;obtain ⟨tn,tk2,te⟩:=t;simp only at hk2 hg;clear hr2 hr3 hn2;have HC2:=O hC2;clear hC2
   by_cases h5:te=0
   ·rw [if_pos h5] at hg
    have h6:=hk2 h5;subst h5;have ck:wr.cell? ⟨g5,k,none⟩=some (.int .i64 0):=by rw [hb5.cell];exact vU acc k hlt hacc
    have fk:=hb5.frozen k;clear hk2;obtain ⟨HG,HB2,HB5,HF,aj4⟩:=jr hg hb2 hb5 hf hacc;clear hg hb2 hb5 hf hacc
    go_wp2_with fail
    refine HC2.out.mono ?_;rintro e w2 ⟨rfl,rfl⟩
    go_wp2_with fail
    go_roundw
    case rel=>
     have e9:=vT acc tn (by rw [aj4.out];exact hlt);rw [aj4.out] at e9;exact ⟨k+1,pp+tk2,acc++[tn],by omega,by go_num,by go_num,by omega,by simp [aj4.out],HB2.out.aF (p:=⟨g5,k,none⟩) n25 _,(HB5.out.aU k _).conv e9,HF.out.setCell (p:=⟨g5,k,none⟩) (.inr n5) _,by rw [HG.out];congr 1⟩
    case measure=>simp [intOf];omega
   ·rw [if_neg h5] at hg
    subst hg;have b1:(te == 0)=false:=by simp [h5]
    have b1' :(te != 0)=true:=by simp [h5]
    have fin:agk ⟨[],0,te⟩=⟨fZ,0,te⟩:=by unfold agk;rw [if_neg h5]
    rw [fin];obtain ⟨c0,c1,c2,c3,c4,c5,c6,c7,c8⟩:=aB hb2;have f0:=hb2.frozen 0;have f1:=hb2.frozen 1;have f2:=hb2.frozen 2;have f3:=hb2.frozen 3;have f4:=hb2.frozen 4;have f5:=hb2.frozen 5;have f6:=hb2.frozen 6;have f7:=hb2.frozen 7;have f8:=hb2.frozen 8;clear h5 hk2 fin;obtain ⟨HF,HB2,HB5⟩:=bP hf hb2 hb5;clear hf hb2 hb5
    go_wp2_with fail
    refine HC2.out.mono ?_;rintro e w2 ⟨rfl,rfl⟩
    go_wp2_with fail
    refine bodyPost_ret (jU fZ g2 (.int .i64 0) (.int .i64 te) _ _ (kY fZ HB2.out) rfl rfl rfl) rfl ⟨rfl,?_⟩;exact eH fZ HF.out n2
  ·obtain rfl:k=9:=by omega
   rw [Nat.sub_self,lF] at hg;subst hg;obtain ⟨a0,a1,a2,a3,a4,a5,a6,a7,a8,rfl⟩:=ak5 acc hacc;obtain ⟨s,hs⟩:∃s,s=dW ⟨a0,a1,a2,a3,a4,a5,a6,a7,a8⟩:=⟨_,rfl⟩;have hfin:agk ⟨[a0,a1,a2,a3,a4,a5,a6,a7,a8],pp,0⟩=if s then ⟨⟨a0,a1,a2,a3,a4,a5,a6,a7,a8⟩,pp,0⟩ else ⟨fZ,0,18⟩:=by rw [hs];rfl
   have hsh:=fun V=>pR ⟨a0,a1,a2,a3,a4,a5,a6,a7,a8⟩ V;rw [←hs] at hsh;unfold En.v at hsh;clear hs hacc;have d0:wr.cell? ⟨g5,0,none⟩=some (.int .i64 a0):=hb5.cell 0;have d1:wr.cell? ⟨g5,1,none⟩=some (.int .i64 a1):=hb5.cell 1;have d2:wr.cell? ⟨g5,2,none⟩=some (.int .i64 a2):=hb5.cell 2;have d3:wr.cell? ⟨g5,3,none⟩=some (.int .i64 a3):=hb5.cell 3;have d4:wr.cell? ⟨g5,4,none⟩=some (.int .i64 a4):=hb5.cell 4;have d5:wr.cell? ⟨g5,5,none⟩=some (.int .i64 a5):=hb5.cell 5;have d6:wr.cell? ⟨g5,6,none⟩=some (.int .i64 a6):=hb5.cell 6;have d7:wr.cell? ⟨g5,7,none⟩=some (.int .i64 a7):=hb5.cell 7;have d8:wr.cell? ⟨g5,8,none⟩=some (.int .i64 a8):=hb5.cell 8;obtain ⟨bS,HSH,HB2,HB5,HF⟩:=jr hfin hsh hb2 hb5 hf;clear hfin hsh hb2 hb5 hf
   go_wp2_with fail
   refine (HSH.out _).mono ?_;rintro e w5 ⟨rfl,f5⟩;have f6:Fr No w w5:=(HF.out.alloc (.cells #[.int .i64 a0,.int .i64 a1,.int .i64 a2,.int .i64 a3,.int .i64 a4,.int .i64 a5,.int .i64 a6,.int .i64 a7,.int .i64 a8] dR)).ah f5;have g2b:Blk w5 g2 dR #[.int .i64 0,.int .i64 0,.int .i64 0,.int .i64 0,.int .i64 0,.int .i64 0,.int .i64 0,.int .i64 0,.int .i64 0]:=(HB2.out.dH _).fr f5 id;have g11:Blk w5 wr.heap.size dR #[.int .i64 a0,.int .i64 a1,.int .i64 a2,.int .i64 a3,.int .i64 a4,.int .i64 a5,.int .i64 a6,.int .i64 a7,.int .i64 a8]:=(Blk.new wr dR _).fr f5 id;have arj:wr.heap.size≠g2:=fun h=>by have:=HB2.out.lt;omega
   obtain ⟨c0,c1,c2,c3,c4,c5,c6,c7,c8⟩:=aB g2b;obtain ⟨e0,e1,e2,e3,e4,e5,e6,e7,e8⟩:=aB g11;have r0:=g2b.frozen 0;have r1:=g2b.frozen 1;have r2:=g2b.frozen 2;have r3:=g2b.frozen 3;have r4:=g2b.frozen 4;have r5:=g2b.frozen 5;have r6:=g2b.frozen 6;have r7:=g2b.frozen 7;have r8:=g2b.frozen 8;clear f5 HB2 HB5 HF HSH d0 d1 d2 d3 d4 d5 d6 d7 d8;obtain ⟨F6,G2B,G11⟩:=bP f6 g2b g11;clear f6 g2b g11
   cases s
   ·go_wp2_with fail
    rw [bS.out];refine bodyPost_ret (jU fZ g2 (.int .i64 0) (.int .i64 18) _ _ (kY fZ G2B.out) rfl rfl rfl) rfl ⟨rfl,?_⟩;exact eH fZ F6.out n2
   ·go_wp2_with fail
    rw [bS.out];refine bodyPost_ret (jU ⟨a0,a1,a2,a3,a4,a5,a6,a7,a8⟩ g2 (.int .i64 (pp:Int)) (.int .i64 0) _ _ (kY ⟨a0,a1,a2,a3,a4,a5,a6,a7,a8⟩ G2B.out) rfl rfl rfl) rfl ⟨rfl,?_⟩;exact eH ⟨a0,a1,a2,a3,a4,a5,a6,a7,a8⟩ F6.out n2
theorem abw (A:Option Addr)(n c:Nat)(l:List UInt8)(w:World)(B:Nat)(hA:A=none→n=0)(hl:l.length=n)(hm:n≤maxLen)(hnc:n≤c)(hr:Rd w B A (l.map bv))(hB:B≤w.heap.size):
  Calls Tryz.prog 165 #[.slice A n c] w (akg w (jK l)):=by
 obtain ⟨u0,hu0,gz0,gz1,gz2⟩:=info_parts bD;obtain ⟨T,hT⟩:∃T,T=lF 9 l 0 []:=⟨_,rfl⟩;unfold jK;rw [←hT];have hM:=hm;unfold maxLen at hm;obtain ⟨HA,HL,HR,HT⟩:=fK hA hl hr hT;clear hA hl hr hT
 go_in
 go_wp2_with fail
 obtain ⟨W,hW⟩:∃W,W=(w.alloc (.cells #[.int .i64 0,.int .i64 0,.int .i64 0,.int .i64 0,.int .i64 0,.int .i64 0,.int .i64 0,.int .i64 0,.int .i64 0] dR)).alloc (.cells #[.int .i64 0,.int .i64 0,.int .i64 0,.int .i64 0,.int .i64 0,.int .i64 0,.int .i64 0,.int .i64 0,.int .i64 0] T9):=⟨_,rfl⟩;rw [←hW];have b2:Blk W w.heap.size dR #[.int .i64 0,.int .i64 0,.int .i64 0,.int .i64 0,.int .i64 0,.int .i64 0,.int .i64 0,.int .i64 0,.int .i64 0]:=by rw [hW];exact (Blk.new _ _ _).dH _
 have b5:Blk W (w.heap.size+1) T9 (uo []):=by rw [hW];exact Blk.new' _ _ _ _ (by simp)
 have hF:Fr No w W:=by rw [hW];exact (aj w _).alloc _
 obtain ⟨g2,hg2⟩:∃g,g=w.heap.size:=⟨_,rfl⟩;obtain ⟨g5,hg5⟩:∃g,g=w.heap.size+1:=⟨_,rfl⟩;rw [←hg2] at b2;rw [←hg5] at b5;rw [←hg5,←hg2];have n2:w.heap.size≤g2:=by omega
 have n5:w.heap.size≤g5:=by omega
 have n25:g2≠g5:=by omega
 have n52:g5≠g2:=by omega
 clear hW hg2 hg5;obtain ⟨B2,B5,HF⟩:=bP b2 b5 hF;clear b2 b5 hF
 go_loopw [6,7] (fun p i wr=>∃(k pp:Nat) (acc:List Int),k≤9∧i= .int .i64 k∧p= .int .i64 pp∧pp≤n∧acc.length=k∧Blk wr g2 dR #[.int .i64 0,.int .i64 0,.int .i64 0,.int .i64 0,.int .i64 0,.int .i64 0,.int .i64 0,.int .i64 0,.int .i64 0]∧Blk wr g5 T9 (uo acc)∧Fr No w wr∧T=lF (9-k) l pp acc) (fun _ i _=>9-(intOf i).toNat)
 case atStart=>exact ⟨0,0,[],Nat.zero_le _,rfl,rfl,Nat.zero_le _,rfl,B2.out,B5.out,HF.out,HT.out⟩
 case round=>
  obtain ⟨k,pp,acc,hk,rfl,rfl,hpp,hacc,hb2,hb5,hf,hg⟩:=hrel;clear HT B2 B5 HF
  by_cases hlt:k<9
  ·obtain ⟨A2,hs2,hn2,hr2⟩:=jw (P:=Tryz.prog) 128 5 Tryz.underlying128 u0 hu0 gz1 A n c pp hpp HA.out
   have hr3:=hr2 wr B (l.map bv) (by rw [List.length_map,HL.out];exact hnc) (HR.out.ak hf hB);rw [←List.map_drop] at hr3;have hC2:=fM A2 (n-pp) (c-pp) (l.drop pp) wr B (by rw [List.length_drop,HL.out]) mxl hr3;have hk2:=oz (l.drop pp);rw [List.length_drop,HL.out] at hk2;rw [show 9-k=(9-k-1)+1 from by omega,lF] at hg;generalize dw (l.drop pp)=t at*;obtain ⟨tn,tk2,te⟩:=t;simp only at hk2 hg;clear hr2 hr3 hn2;have HC2:=O hC2;clear hC2
   by_cases h5:te=0
   ·rw [if_pos h5] at hg
    have h6:=hk2 h5;subst h5;have ck:wr.cell? ⟨g5,k,none⟩=some (.int .i64 0):=by rw [hb5.cell];exact vU acc k hlt hacc
    have fk:=hb5.frozen k;clear hk2;obtain ⟨HG,HB2,HB5,HF,aj4⟩:=jr hg hb2 hb5 hf hacc;clear hg hb2 hb5 hf hacc
    go_wp2_with fail
    refine HC2.out.mono ?_;rintro e w2 ⟨rfl,rfl⟩
    go_wp2_with fail
    go_roundw
    case rel=>
     have e9:=vT acc tn (by rw [aj4.out];exact hlt);rw [aj4.out] at e9;exact ⟨k+1,pp+tk2,acc++[tn],by omega,by go_num,by go_num,by omega,by simp [aj4.out],HB2.out.aF (p:=⟨g5,k,none⟩) n25 _,(HB5.out.aU k _).conv e9,HF.out.setCell (p:=⟨g5,k,none⟩) (.inr n5) _,by rw [HG.out];congr 1⟩
    case measure=>simp [intOf];omega
   ·rw [if_neg h5] at hg
    subst hg;have b1:(te == 0)=false:=by simp [h5]
    have b1' :(te != 0)=true:=by simp [h5]
    have fin:agk ⟨[],0,te⟩=⟨fZ,0,te⟩:=by unfold agk;rw [if_neg h5]
    rw [fin];obtain ⟨c0,c1,c2,c3,c4,c5,c6,c7,c8⟩:=aB hb2;have f0:=hb2.frozen 0;have f1:=hb2.frozen 1;have f2:=hb2.frozen 2;have f3:=hb2.frozen 3;have f4:=hb2.frozen 4;have f5:=hb2.frozen 5;have f6:=hb2.frozen 6;have f7:=hb2.frozen 7;have f8:=hb2.frozen 8;clear h5 hk2 fin;obtain ⟨HF,HB2,HB5⟩:=bP hf hb2 hb5;clear hf hb2 hb5
    go_wp2_with fail
    refine HC2.out.mono ?_;rintro e w2 ⟨rfl,rfl⟩
    go_wp2_with fail
    refine bodyPost_ret (jy fZ g2 (.int .i64 0) (.int .i64 te) _ _ (kY fZ HB2.out) rfl rfl rfl) rfl ⟨rfl,?_⟩;exact eH fZ HF.out n2
  ·obtain rfl:k=9:=by omega
   rw [Nat.sub_self,lF] at hg;subst hg;obtain ⟨a0,a1,a2,a3,a4,a5,a6,a7,a8,rfl⟩:=ak5 acc hacc;obtain ⟨s,hs⟩:∃s,s=dW ⟨a0,a1,a2,a3,a4,a5,a6,a7,a8⟩:=⟨_,rfl⟩;have hfin:agk ⟨[a0,a1,a2,a3,a4,a5,a6,a7,a8],pp,0⟩=if s then ⟨⟨a0,a1,a2,a3,a4,a5,a6,a7,a8⟩,pp,0⟩ else ⟨fZ,0,18⟩:=by rw [hs];rfl
   have hsh:=fun V=>nI ⟨a0,a1,a2,a3,a4,a5,a6,a7,a8⟩ V;rw [←hs] at hsh;unfold En.v at hsh;clear hs hacc;have d0:wr.cell? ⟨g5,0,none⟩=some (.int .i64 a0):=hb5.cell 0;have d1:wr.cell? ⟨g5,1,none⟩=some (.int .i64 a1):=hb5.cell 1;have d2:wr.cell? ⟨g5,2,none⟩=some (.int .i64 a2):=hb5.cell 2;have d3:wr.cell? ⟨g5,3,none⟩=some (.int .i64 a3):=hb5.cell 3;have d4:wr.cell? ⟨g5,4,none⟩=some (.int .i64 a4):=hb5.cell 4;have d5:wr.cell? ⟨g5,5,none⟩=some (.int .i64 a5):=hb5.cell 5;have d6:wr.cell? ⟨g5,6,none⟩=some (.int .i64 a6):=hb5.cell 6;have d7:wr.cell? ⟨g5,7,none⟩=some (.int .i64 a7):=hb5.cell 7;have d8:wr.cell? ⟨g5,8,none⟩=some (.int .i64 a8):=hb5.cell 8;obtain ⟨bS,HSH,HB2,HB5,HF⟩:=jr hfin hsh hb2 hb5 hf;clear hfin hsh hb2 hb5 hf
   go_wp2_with fail
   refine (HSH.out _).mono ?_;rintro e w5 ⟨rfl,f5⟩;have f6:Fr No w w5:=(HF.out.alloc (.cells #[.int .i64 a0,.int .i64 a1,.int .i64 a2,.int .i64 a3,.int .i64 a4,.int .i64 a5,.int .i64 a6,.int .i64 a7,.int .i64 a8] dR)).ah f5;have g2b:Blk w5 g2 dR #[.int .i64 0,.int .i64 0,.int .i64 0,.int .i64 0,.int .i64 0,.int .i64 0,.int .i64 0,.int .i64 0,.int .i64 0]:=(HB2.out.dH _).fr f5 id;have g11:Blk w5 wr.heap.size dR #[.int .i64 a0,.int .i64 a1,.int .i64 a2,.int .i64 a3,.int .i64 a4,.int .i64 a5,.int .i64 a6,.int .i64 a7,.int .i64 a8]:=(Blk.new wr dR _).fr f5 id;have arj:wr.heap.size≠g2:=fun h=>by have:=HB2.out.lt;omega
   obtain ⟨c0,c1,c2,c3,c4,c5,c6,c7,c8⟩:=aB g2b;obtain ⟨e0,e1,e2,e3,e4,e5,e6,e7,e8⟩:=aB g11;have r0:=g2b.frozen 0;have r1:=g2b.frozen 1;have r2:=g2b.frozen 2;have r3:=g2b.frozen 3;have r4:=g2b.frozen 4;have r5:=g2b.frozen 5;have r6:=g2b.frozen 6;have r7:=g2b.frozen 7;have r8:=g2b.frozen 8;clear f5 HB2 HB5 HF HSH d0 d1 d2 d3 d4 d5 d6 d7 d8;obtain ⟨F6,G2B,G11⟩:=bP f6 g2b g11;clear f6 g2b g11
   cases s
   ·go_wp2_with fail
    rw [bS.out];refine bodyPost_ret (jy fZ g2 (.int .i64 0) (.int .i64 18) _ _ (kY fZ G2B.out) rfl rfl rfl) rfl ⟨rfl,?_⟩;exact eH fZ F6.out n2
   ·go_wp2_with fail
    rw [bS.out];refine bodyPost_ret (jy ⟨a0,a1,a2,a3,a4,a5,a6,a7,a8⟩ g2 (.int .i64 (pp:Int)) (.int .i64 0) _ _ (kY ⟨a0,a1,a2,a3,a4,a5,a6,a7,a8⟩ G2B.out) rfl rfl rfl) rfl ⟨rfl,?_⟩;exact eH ⟨a0,a1,a2,a3,a4,a5,a6,a7,a8⟩ F6.out n2
structure Lg where
 term:Int
 e:En
deriving DecidableEq
structure Js where
 term:Int
 cu:Int
 log:List Lg
abbrev iZ:Js:=⟨0,-1,[]⟩
def aD (l:List Lg)(i:Int):Int:=if 0≤i then ((l[i.toNat]?).map (·.term)).getD 0 else 0
def bB (s:Js)(term cu:Int):Int:=
 if term<0∨1073741824<term∨cu< -1∨5≤cu then 1 else if term<s.term∨(term=s.term∧s.cu≠-1∧s.cu≠cu) then 20 else 0
def bC (s:Js)(term cu:Int):Js:=if bB s term cu=0 then ⟨term,cu,s.log⟩ else s
def iB (s:Js)(term:Int)(e:En):Int:=
 if term<1∨1073741824<term∨dW e=false then 1 else if s.term<term∨term<aD s.log ((s.log.length:Int)-1) then 20 else if 4096≤s.log.length then 2 else 0
def gT (s:Js)(term:Int)(e:En):Js:=if iB s term e=0 then ⟨s.term,s.cu,s.log++[⟨term,e⟩]⟩ else s
def jg (s:Js)(n:Int):Int:=if n<0∨(s.log.length:Int)<n then 1 else 0
def jP (s:Js)(n:Int):Js:=if jg s n=0 then ⟨s.term,s.cu,s.log.take n.toNat⟩ else s
def tkJ (p:List UInt8):Option (Int×List UInt8):=if (dw p).e=0 then some ((dw p).n,p.drop (dw p).k) else none
def fA (s:Js)(kind n:Int)(p:List UInt8):Option Js:=
 if kind=1 then (match tkJ p with
  |none=>none
  |some (v,q)=>if q=[]∧bB s n v=0 then some (bC s n v) else none)
 else if kind=2 then (if (jK p).x=0∧(jK p).k=p.length∧iB s n (jK p).e=0 then some (gT s n (jK p).e) else none)
 else if kind=3 then (if p=[]∧jg s n=0 then some (jP s n) else none)
 else none
def bT (s:Js)(r:List UInt8):Option Js:=
 match tkJ r with
 |none=>none
 |some (kind,p)=>match tkJ p with
  |none=>none
  |some (n,q)=>fA s kind n q
def lZ:Nat→List UInt8→Nat→Js→Nat×Js
 |0,_,p,s=>(p,s)
 |f+1,b,p,s=>if p<b.length then (if (aN 8 (b.drop p)).e=0 then (match bT s (aN 8 (b.drop p)).p with
   |some s' =>lZ f b (p+(aN 8 (b.drop p)).k) s'
   |none=>(p,s)) else (p,s)) else (p,s)
def nK (b:List UInt8):Nat×Js:=lZ (b.length+1) b 0 iZ
def nU:Js→List (List UInt8)→Option Js
 |s,[]=>some s
 |s,r :: rs=>(bT s r).bind fun s' =>nU s' rs
theorem lX (n:Int)(h1: -9223372036854775808≤n)(h2:n≤9223372036854775807)(p:List UInt8):tkJ (bX (aV n)++p)=some (n,p):=by
 unfold tkJ;rw [oW n h1 h2];simp only [if_true,List.drop_left' rfl]
theorem dY (n:Int)(l:List Int):dn (n :: l)=bX (aV n)++dn l:=by simp [dn]
theorem ji:dn []=[]:=rfl
theorem zZ (e:En)(h:e.ok)(hs:dW e=true)(more:List UInt8):jK (enB e++more)=⟨e,(enB e).length,0⟩:=by
 have h1:=aao e.l [] more [] h;rw [En.anu] at h1;simp only [List.nil_append,List.length_nil,Nat.zero_add] at h1;unfold jK enB;rw [h1];unfold agk;simp only [if_true,En.aq6,hs]
def zY (term cu:Int):List UInt8:=dn [1,term,cu]
def yN (term:Int)(e:En):List UInt8:=dn [2,term]++enB e
def recC (n:Int):List UInt8:=dn [3,n]
theorem qc (s:Js)(t v:Int)(h:bB s t v=0):bT s (zY t v)=some (bC s t v):=by
 have hb:¬(t<0∨1073741824<t∨v< -1∨5≤v):=by
  intro hc;unfold bB at h;rw [if_pos hc] at h;exact absurd h dcd
 unfold bT zY;rw [dY,dY,dY,ji,lX 1 dcd dcd];simp only;rw [lX t oy oy];simp only [fA,if_true];rw [lX v oy oy];simp only [true_and,h,if_true]
theorem oG (s:Js)(t:Int)(e:En)(he:e.ok)(h:iB s t e=0):bT s (yN t e)=some (gT s t e):=by
 have hb:¬(t<1∨1073741824<t∨dW e=false):=by
  intro hc;unfold iB at h;rw [if_pos hc] at h;exact absurd h dcd
 have hs:dW e=true:=by
  cases hq:dW e
  ·exact absurd (Or.inr (Or.inr hq)) hb
  ·rfl
 unfold bT yN;rw [dY,dY,ji,List.append_nil,List.append_assoc,lX 2 dcd dcd];simp only;rw [lX t oy oy];simp only [fA];rw [if_neg dcd,if_pos trivial];have:=zZ e he hs [];rw [List.append_nil] at this;rw [this];simp only [true_and,h,if_true]
theorem sM (s:Js)(n:Int)(hl:s.log.length≤4096)(h:jg s n=0):bT s (recC n)=some (jP s n):=by
 have hb:¬(n<0∨(s.log.length:Int)<n):=by
  intro hc;unfold jg at h;rw [if_pos hc] at h;exact absurd h dcd
 unfold bT recC;rw [dY,dY,ji,lX 3 dcd dcd];simp only;rw [lX n oy oy];simp only [fA];rw [if_neg dcd,if_neg dcd,if_pos trivial];simp only [true_and,h,if_true]
theorem oK (s:Js)(rs qs:List (List UInt8)):nU s (rs++qs)=(nU s rs).bind fun s' =>nU s' qs:=by
 induction rs generalizing s with
 |nil=>rfl
 |cons r rs ih=>
  simp only [List.cons_append,nU]
  cases bT s r with
  |none=>rfl
  |some s' =>simpa using ih s'
theorem ql:∀(rs:List (List UInt8)) (s s' :Js) (pre more:List UInt8) (f:Nat),(∀r∈rs,r.length≤65536)→nU s rs=some s'→(pre++(frames 8 rs++more)).length<f+pre.length→(more=[]∨(aN 8 more).e≠0)→
  lZ f (pre++(frames 8 rs++more)) pre.length s=(pre.length+(frames 8 rs).length,s'):=by
 intro rs
 induction rs with
 |nil=>
  intro s s' pre more f _ hs hf hm;simp only [nU,Option.some.injEq] at hs;subst hs
  rcases f with _|f
  ·simp [lZ,frames]
  ·simp only [lZ,frames,List.flatMap_nil,List.nil_append,List.length_nil,Nat.add_zero]
   rcases hm with rfl|hm
   ·rw [if_neg (by simp)]
   ·by_cases h0:pre.length<(pre++more).length
    ·rw [if_pos h0,List.drop_left' rfl,if_neg hm]
    ·rw [if_neg h0]
 |cons r rs ih=>
  intro s s' pre more f hr hs hf hm;have hr1:=hr r (by simp);have hl:=dX 8 r hr1;simp only [nU] at hs
  cases hq:bT s r with
  |none=>rw [hq] at hs;cases hs
  |some s1=>
   rw [hq] at hs;simp only [Option.bind_some] at hs;have e1:pre++(frames 8 (r :: rs)++more)=(pre++eT 8 r)++(frames 8 rs++more):=by rw [eG];simp only [List.append_assoc]
   rcases f with _|f
   ·simp only [List.length_append] at hf;omega
   ·have h0:pre.length<(pre++(frames 8 (r :: rs)++more)).length:=by rw [eG];simp only [List.length_append];omega
    rw [lZ,if_pos h0,List.drop_left' rfl,eG,List.append_assoc,zQ 8 r _ hr1];simp only [if_true,hq];have:=ih s1 s' (pre++eT 8 r) more f (fun q hq=>hr q (by simp [hq])) hs (by rw [e1] at hf;simp only [List.length_append] at hf ⊢;omega) hm;rw [List.length_append] at this;rw [show pre++(eT 8 r++(frames 8 rs++more))=(pre++eT 8 r)++(frames 8 rs++more) from by simp only [List.append_assoc],this,List.length_append]
    congr 1
    omega
structure Good (xs:List UInt8) (s:Js) (rs:List (List UInt8)):Prop where
 bytes:xs=frames 8 rs
 small:∀r∈rs,r.length≤65536
 makes:nU iZ rs=some s
theorem Good.new:Good [] iZ []:=⟨rfl,fun _ h=>(by cases h),rfl⟩
theorem Good.snoc {xs:List UInt8}{s s' :Js}{rs:List (List UInt8)}(h:Good xs s rs)(r:List UInt8)(hr:r.length≤65536)(hq:bT s r=some s'):Good (xs++eT 8 r) s' (rs++[r]):=by
 refine ⟨by rw [uI,h.bytes];simp [frames],?_,?_⟩
 ·intro q hq
  rcases List.mem_append.1 hq with h1|h1
  ·exact h.small q h1
  ·simp at h1;subst h1;exact hr
 ·rw [oK,h.makes]
  simp [nU,hq]
theorem Good.play {xs:List UInt8}{s:Js}{rs:List (List UInt8)}(h:Good xs s rs):nK xs=(xs.length,s):=by
 have:=ql rs iZ s [] [] (xs.length+1) h.small h.makes (by simp [h.bytes]) (.inl rfl);simp only [List.nil_append,List.append_nil,List.length_nil,Nat.zero_add] at this;rw [←h.bytes] at this;exact this
theorem aas:∀(rs:List (List UInt8)) (m:Nat),(∀r∈rs,r.length≤65536)→∃i more,i≤rs.length∧(frames 8 rs).take m=frames 8 (rs.take i)++more∧(more=[]∨(aN 8 more).e≠0)∧∀j,j≤rs.length→(frames 8 (rs.take j)).length≤m→j≤i:=by
 intro rs
 induction rs with
 |nil=>intro m _;exact ⟨0,[],Nat.le_refl _,by simp [frames],.inl rfl,fun j hj _=>hj⟩
 |cons r rs ih=>
  intro m hr;have hr1:=hr r (by simp);have hl:=dX 8 r hr1
  by_cases hm:m<(eT 8 r).length
  ·refine ⟨0,(eT 8 r).take m,Nat.zero_le _,?_,.inr ?_,?_⟩
   ·rw [eG,List.take_append_of_le_length oy]
    simp [frames]
   ·rw [zR 8 r hr1 m hm]
    decide
   ·intro j hj hle
    rcases j with _|j
    ·exact Nat.le_refl _
    ·rw [List.take_succ_cons,eG,List.length_append] at hle
     omega
  ·obtain ⟨i,more,h1,h2,h3,h4⟩:=ih (m-(eT 8 r).length) (fun q hq=>hr q (by simp [hq]))
   refine ⟨i+1,more,by simpa using h1,?_,h3,?_⟩
   ·rw [eG,List.take_append,List.take_of_length_le oy,h2,List.take_succ_cons,eG,List.append_assoc]
   ·intro j hj hle
    rcases j with _|j
    ·exact Nat.zero_le _
    ·rw [List.take_succ_cons,eG,List.length_append] at hle
     have:=h4 j (by simpa using hj) oy
     omega
theorem Good.crash {xs:List UInt8}{s:Js}{rs:List (List UInt8)}(h:Good xs s rs)(m:Nat)(hm:m≤xs.length):
  ∃i s',i≤rs.length∧nU iZ (rs.take i)=some s'∧nK (xs.take m)=((frames 8 (rs.take i)).length,s')∧Good ((xs.take m).take (frames 8 (rs.take i)).length) s' (rs.take i)∧(frames 8 (rs.take i)).length≤m∧
   ∀j,j≤rs.length→(frames 8 (rs.take j)).length≤m→j≤i:=by
 obtain ⟨i,more,h1,h2,h3,h4⟩:=aas rs m h.small;obtain ⟨s',hs'⟩:∃s',nU iZ (rs.take i)=some s' :=by
  have:=h.makes;rw [←List.take_append_drop i rs,oK] at this
  cases hq:nU iZ (rs.take i) with
  |none=>rw [hq] at this;cases this
  |some s' =>exact ⟨s',rfl⟩
 have hsm:∀r∈rs.take i,r.length≤65536:=fun r hr=>h.small r (List.mem_of_mem_take hr);rw [←h.bytes] at h2;have hp:=ql (rs.take i) iZ s' [] more ((xs.take m).length+1) hsm hs' (by rw [h2];simp) h3;simp only [List.nil_append,List.length_nil,Nat.zero_add] at hp;rw [←h2] at hp;have hle:(frames 8 (rs.take i)).length≤m:=by
  have:=congrArg List.length h2;rw [List.length_append,List.length_take] at this
  omega
 refine ⟨i,s',h1,hs',hp,⟨?_,hsm,hs'⟩,hle,h4⟩;rw [h2,List.take_left' rfl]
section
abbrev TJ:TypeId:=115
abbrev TLg:TypeId:=96
abbrev sW:Lg:=⟨0,fZ⟩
def Lg.cells (x:Lg):List Value:=[.int .i64 x.term,.int .i64 x.e.kind,.int .i64 x.e.tick,.int .i64 x.e.aS,.int .i64 x.e.cell,.int .i64 x.e.other,.int .i64 x.e.epoch,.int .i64 x.e.from_,.int .i64 x.e.bA,.int .i64 x.e.n]
def Lg.v (x:Lg):Value:= .agg #[.int .i64 x.term,.int .i64 x.e.kind,.int .i64 x.e.tick,.int .i64 x.e.aS,.int .i64 x.e.cell,.int .i64 x.e.other,.int .i64 x.e.epoch,.int .i64 x.e.from_,.int .i64 x.e.bA,.int .i64 x.e.n]
def dD (l:List Lg):List Value:=l.flatMap Lg.cells
theorem bg (l:List Lg):(dD l).length=l.length*10:=by
 induction l with
 |nil=>rfl
 |cons x l ih=>simp only [dD,List.flatMap_cons,List.length_append,List.length_cons] at*;rw [ih,Nat.succ_mul];simp [Lg.cells];omega
theorem mV (l:List Lg)(x:Lg):dD (l++[x])=dD l++x.cells:=by simp [dD]
theorem dh (l:List Lg)(i j:Nat)(x:Lg)(hx:l[i]? =some x)(hj:j<10):(dD l)[i*10+j]? =x.cells[j]? :=by
 induction l generalizing i with
 |nil=>simp at hx
 |cons y l ih=>
  have hl:y.cells.length=10:=rfl;have e1:dD (y :: l)=y.cells++dD l:=by simp [dD]
  rw [e1]
  rcases i with _|i
  ·simp only [List.getElem?_cons_zero,Option.some.injEq] at hx
   subst hx;rw [Nat.zero_mul,Nat.zero_add,List.getElem?_append_left oy]
  ·rw [List.getElem?_append_right oy,hl,show (i+1)*10+j-10=i*10+j from by omega]
   exact ih i (by simpa using hx)
theorem vW (l:List Lg)(k:Nat):(dD l).take (k*10)=dD (l.take k):=by
 induction l generalizing k with
 |nil=>simp [dD]
 |cons y l ih=>
  have hl:y.cells.length=10:=rfl;have e1:dD (y :: l)=y.cells++dD l:=by simp [dD]
  rcases k with _|k
  ·simp [dD]
  ·rw [e1,List.take_succ_cons,show dD (y :: l.take k)=y.cells++dD (l.take k) from by simp [dD],List.take_append,List.take_of_length_le oy,hl,show (k+1)*10-10=k*10 from by omega,ih]
def JAt (w:World)(F:Nat→Prop)(j d:Nat)(xs:List UInt8)(k:Nat)(s:Js):Prop:=
 ∃v Fd,Blk w j TJ #[.pointer (some ⟨d,0,none⟩),.int .i64 s.term,.int .i64 s.cu,v]∧F j∧bG w F TLg 10 v s.log.length (dD s.log)∧eB w Fd d xs k∧(∀i,Fd i→F i)∧¬Fd j∧(∀g,v.ownBlock=some g→¬Fd g)∧∀i,F i→i<w.heap.size
def JTo (w:World)(F:Nat→Prop)(j d:Nat)(xs:List UInt8)(k:Nat)(s:Js)(w' :World):Prop:=
 ∃F',JAt w' F' j d xs k s∧(∀i,F' i→F i∨w.heap.size≤i)∧Fr F w w'
section
variable {w w' w1:World}{F G:Nat→Prop}{j d:Nat}{xs:List UInt8}{k:Nat}{s:Js}
theorem JAt.fr (h:JAt w F j d xs k s)(hf:Fr G w w')(hd:∀i,F i→¬G i):JAt w' F j d xs k s:=by
 obtain ⟨v,Fd,h1,h2,h3,h4,h5,h6,h7,h8⟩:=h;exact ⟨v,Fd,h1.fr hf (hd j h2),h2,h3.fr' hf fun g hg=>hd g (h3.2 g hg),h4.fr hf fun i hi=>hd i (h5 i hi),h5,h6,h7,fun i hi=>nll (h8 i hi) hf.size⟩
theorem JAt.ak (h:JAt w F j d xs k s)(hf:Fr No w w'):JAt w' F j d xs k s:=h.fr hf fun _ _ hi=>hi
theorem JAt.lt (h:JAt w F j d xs k s):∀i,F i→i<w.heap.size:=by
 obtain ⟨v,Fd,h1,h2,h3,h4,h5,h6,h7,h8⟩:=h;exact h8
theorem JAt.self (h:JAt w F j d xs k s):JTo w F j d xs k s w:=⟨F,h,fun _ hi=> .inl hi,Fr.refl _ _⟩
theorem JAt.open_ (h:JAt w F j d xs k s):∃A c Fd,Blk w j TJ #[.pointer (some ⟨d,0,none⟩),.int .i64 s.term,.int .i64 s.cu,.slice A s.log.length c]∧F j∧bG w F TLg 10 (.slice A s.log.length c) s.log.length (dD s.log)∧eB w Fd d xs k∧(∀i,Fd i→F i)∧¬Fd j∧(∀g,Value.ownBlock (.slice A s.log.length c)=some g→¬Fd g)∧(∀i,F i→i<w.heap.size)∧
   w.cell? ⟨j,0,none⟩=some (.pointer (some ⟨d,0,none⟩))∧w.cell? ⟨j,1,none⟩=some (.int .i64 s.term)∧w.cell? ⟨j,2,none⟩=some (.int .i64 s.cu)∧w.cell? ⟨j,3,none⟩=some (.slice A s.log.length c)∧(A=none→s.log.length=0):=by
 obtain ⟨v,Fd,h1,h2,h3,h4,h5,h6,h7,h8⟩:=h;obtain ⟨A,c,rfl,hn⟩:=h3.form;exact ⟨A,c,Fd,h1,h2,h3,h4,h5,h6,h7,h8,h1.cell 0,h1.cell 1,h1.cell 2,h1.cell 3,hn⟩
theorem JAt.disk {v:Value}{Fd:Nat→Prop}{ys:List UInt8}{m:Nat}(h1:Blk w j TJ #[.pointer (some ⟨d,0,none⟩),.int .i64 s.term,.int .i64 s.cu,v])(h2:F j)(h3:bG w F TLg 10 v s.log.length (dD s.log))(h5:∀i,Fd i→F i)(h6:¬Fd j)(h7:∀g,v.ownBlock=some g→¬Fd g)(h8:∀i,F i→i<w.heap.size)
  (hd:kI w Fd d ys m w'):JTo w F j d ys m s w' :=by
 obtain ⟨Fd',g1,g2,g3⟩:=hd;have hjl:=h8 j h2;refine ⟨fun i=>F i∨(w.heap.size≤i∧i<w'.heap.size),⟨v,Fd',h1.fr g3 h6,.inl h2,(h3.fr' g3 h7).mono fun i hi=> .inl hi,g1,?_,?_,?_,?_⟩,?_,g3.mono h5⟩
 ·intro i hi
  have:=g1.lt i hi
  rcases g2 i hi with h|h
  ·exact .inl (h5 i h)
  ·exact .inr ⟨h,this⟩
 ·intro h
  rcases g2 j h with h|h
  ·exact h6 h
  ·omega
 ·intro g hg h
  have hl:=h3.lt g hg
  rcases g2 g h with h|h
  ·exact h7 g hg h
  ·omega
 ·intro i hi
  rcases hi with h|h
  ·exact nll (h8 i h) g3.size
  ·exact h.2
 ·intro i hi
  rcases hi with h|h
  ·exact .inl h
  ·exact .inr h.1
theorem JTo.trans {ys:List UInt8}{m:Nat}{s' :Js}(h:JTo w F j d xs k s w1)(h2:∀F',JAt w1 F' j d xs k s→JTo w1 F' j d ys m s' w'):JTo w F j d ys m s' w' :=by
 obtain ⟨F1,h3,h4,h5⟩:=h;obtain ⟨F2,g3,g4,g5⟩:=h2 F1 h3;refine ⟨F2,g3,fun i hi=> ?_,h5.trans g5 h4⟩
 rcases g4 i hi with h|h
 ·exact h4 i h
 ·exact .inr (Nat.le_trans h5.size h)
end
theorem ak8 {w:World}{F:Nat→Prop}{j d:Nat}{xs:List UInt8}{k:Nat}{s:Js}(h:JAt w F j d xs k s):
  Calls Tryz.prog 37 #[.pointer (some ⟨j,0,none⟩)] w fun e w' =>e= .returned (.int .i64 s.term)∧w=w' :=by
 obtain ⟨A,c,Fd,h1,h2,h3,h4,h5,h6,h7,h8,c0,c1,c2,c3,hn⟩:=h.open_;clear h h1 h2 h3 h4 h5 h6 h7 h8 hn
 go_in
 go_wp2_with fail
 go_ret
 exact ⟨rfl,rfl⟩
theorem ak7 {w:World}{F:Nat→Prop}{j d:Nat}{xs:List UInt8}{k:Nat}{s:Js}(h:JAt w F j d xs k s):
  Calls Tryz.prog 38 #[.pointer (some ⟨j,0,none⟩)] w fun e w' =>e= .returned (.int .i64 s.cu)∧w=w' :=by
 obtain ⟨A,c,Fd,h1,h2,h3,h4,h5,h6,h7,h8,c0,c1,c2,c3,hn⟩:=h.open_;clear h h1 h2 h3 h4 h5 h6 h7 h8 hn
 go_in
 go_wp2_with fail
 go_ret
 exact ⟨rfl,rfl⟩
theorem anw {w:World}{F:Nat→Prop}{j d:Nat}{xs:List UInt8}{k:Nat}{s:Js}(h:JAt w F j d xs k s):
  Calls Tryz.prog 114 #[.pointer (some ⟨j,0,none⟩)] w fun e w' =>e= .returned (.int .i64 (s.log.length:Int))∧w=w' :=by
 obtain ⟨A,c,Fd,h1,h2,h3,h4,h5,h6,h7,h8,c0,c1,c2,c3,hn⟩:=h.open_;clear h h1 h2 h3 h4 h5 h6 h7 h8 hn
 go_in
 go_wp2_with fail
 go_ret
 exact ⟨rfl,rfl⟩
theorem anv (w:World):
  Calls Tryz.prog 31 #[] w fun e w' =>∃j d F,e= .returned (.pointer (some ⟨j,0,none⟩))∧JAt w' F j d [] 0 iZ∧(∀i,F i→w.heap.size≤i)∧Fr No w w' :=by
 go_in
 go_wp2_with fail
 refine (agr _).mono ?_;rintro e w1 ⟨rfl,h1,f1⟩;obtain ⟨H1,F1⟩:=aO h1 f1;clear h1 f1
 go_wp2_with fail
 go_ret
 have hs:=F1.out.size;have hd:=H1.out.lt w.heap.size rfl;refine ⟨w1.heap.size,w.heap.size,fun i=>i=w.heap.size∨i=w1.heap.size,rfl,⟨.slice none 0 0,fun i=>i=w.heap.size,Blk.new _ _ _,.inr rfl,bG.nil _ _ _ _,H1.out.ak (aj _ _),fun i hi=> .inl hi,?_,fun g hg=>(by cases hg),?_⟩,?_,F1.out.alloc _⟩
 ·intro h
  omega
 ·intro i hi
  simp
  omega
 ·intro i hi
  omega
def atJ (l:List Lg)(i:Int):Lg×Bool:=if 0≤i then (match l[i.toNat]? with|some x=>(x,true)|none=>(sW,false)) else (sW,false)
theorem zJ (l:List Lg)(i:Int):(atJ l i).1.term=aD l i:=by
 unfold atJ aD
 split
 ·cases l[i.toNat]? <;>rfl
 ·rfl
end
section
set_option maxHeartbeats 2000000 in
theorem apl {w:World}{F:Nat→Prop}{j d:Nat}{xs:List UInt8}{k:Nat}{s:Js}(h:JAt w F j d xs k s)(i:Int):
  Calls Tryz.prog 113 #[.pointer (some ⟨j,0,none⟩),.int .i64 i] w fun e w' =>e= .returned (.tuple #[(atJ s.log i).1.v,.bool (atJ s.log i).2])∧Fr No w w' :=by
 obtain ⟨A,c,Fd,h1,h2,h3,h4,h5,h6,h7,h8,c0,c1,c2,c3,hn⟩:=h.open_;have hjl:=h1.lt;clear h h1 h2 h4 h5 h6 h7 h8
 by_cases h0:i<0
 ·have ha:atJ s.log i=(sW,false):=by unfold atJ;rw [if_neg oy]
  rw [ha];have t1:decide (i<0)=true:=by simpa using h0
  clear ha hn h3
  go_in
  go_wp2_with fail
  refine bodyPost_ret (v:= .tuple #[.agg _,.bool false]) (by simp [results,Tryz.results113,go_sem]) rfl ⟨rfl,?_⟩;exact aj _ _
 ·have t1:decide (i<0)=false:=by simpa using h0
  obtain ⟨n,rfl⟩:∃n:Nat,i=(n:Int):=⟨i.toNat,by omega⟩
  by_cases h9:s.log.length≤n
  ·have ha:atJ s.log (n:Int)=(sW,false):=by unfold atJ;rw [if_pos oy,Int.toNat_natCast,List.getElem?_eq_none h9]
   rw [ha];have t2:decide ((s.log.length:Int)≤(n:Int))=true:=by simpa using h9
   clear ha hn h3
   go_in
   go_wp2_with fail
   refine bodyPost_ret (v:= .tuple #[.agg _,.bool false]) (by simp [results,Tryz.results113,go_sem]) rfl ⟨rfl,?_⟩;exact aj _ _
  ·obtain ⟨x,hx⟩:∃x,s.log[n]? =some x:=⟨_,List.getElem?_eq_getElem oy⟩
   have ha:atJ s.log (n:Int)=(x,true):=by unfold atJ;rw [if_pos oy,Int.toNat_natCast,hx]
   rw [ha];have t2:decide ((s.log.length:Int)≤(n:Int))=false:=by simp;omega
   obtain ⟨b,rfl,hb,-,hc⟩:=h3.head oy;have hlt:n<s.log.length:=by omega
   have e0:w.cell? ⟨b,n*10,none⟩=some (.int .i64 x.term):=by rw [←Nat.add_zero (n*10),hc _ (by rw [bg];omega),dh s.log n 0 x hx oy];rfl
   have e1:w.cell? ⟨b,n*10+1,none⟩=some (.int .i64 x.e.kind):=by rw [hc _ (by rw [bg];omega),dh s.log n 1 x hx oy];rfl
   have e2:w.cell? ⟨b,n*10+2,none⟩=some (.int .i64 x.e.tick):=by rw [hc _ (by rw [bg];omega),dh s.log n 2 x hx oy];rfl
   have e3:w.cell? ⟨b,n*10+3,none⟩=some (.int .i64 x.e.aS):=by rw [hc _ (by rw [bg];omega),dh s.log n 3 x hx oy];rfl
   have e4:w.cell? ⟨b,n*10+4,none⟩=some (.int .i64 x.e.cell):=by rw [hc _ (by rw [bg];omega),dh s.log n 4 x hx oy];rfl
   have e5:w.cell? ⟨b,n*10+5,none⟩=some (.int .i64 x.e.other):=by rw [hc _ (by rw [bg];omega),dh s.log n 5 x hx oy];rfl
   have e6:w.cell? ⟨b,n*10+6,none⟩=some (.int .i64 x.e.epoch):=by rw [hc _ (by rw [bg];omega),dh s.log n 6 x hx oy];rfl
   have e7:w.cell? ⟨b,n*10+7,none⟩=some (.int .i64 x.e.from_):=by rw [hc _ (by rw [bg];omega),dh s.log n 7 x hx oy];rfl
   have e8:w.cell? ⟨b,n*10+8,none⟩=some (.int .i64 x.e.bA):=by rw [hc _ (by rw [bg];omega),dh s.log n 8 x hx oy];rfl
   have e9:w.cell? ⟨b,n*10+9,none⟩=some (.int .i64 x.e.n):=by rw [hc _ (by rw [bg];omega),dh s.log n 9 x hx oy];rfl
   clear ha hn h3 hc h9;have HX:=O hx;clear hx
   go_in
   go_wp2_with fail
   refine bodyPost_ret (v:= .tuple #[.agg _,.bool true]) (by simp [results,Tryz.results113,go_sem]) rfl ⟨rfl,?_⟩;exact aj _ _
theorem zk {w:World}{F:Nat→Prop}{j d:Nat}{xs:List UInt8}{k:Nat}{s:Js}(h:JAt w F j d xs k s)(i:Int):
  Calls Tryz.prog 120 #[.pointer (some ⟨j,0,none⟩),.int .i64 i] w fun e w' =>e= .returned (.int .i64 (aD s.log i))∧Fr No w w' :=by
 have hA:=apl h i;rw [←zJ];revert hA;generalize (atJ s.log i).1=x;generalize (atJ s.log i).2=b;intro hA;unfold Lg.v at hA;have HA:=O hA;clear hA;clear h
 go_in
 go_wp2_with fail
 refine HA.out.mono ?_;rintro e w1 ⟨rfl,f1⟩;have F1:=O f1;clear f1
 go_wp2_with fail
 go_ret
 exact ⟨rfl,F1.out.alloc _⟩
section
variable {w:World}{F:Nat→Prop}{j d:Nat}{xs:List UInt8}{k:Nat}{s:Js}{v:Value}{Fd:Nat→Prop}
theorem JAt.abt (t u:Int)(h1:Blk w j TJ #[.pointer (some ⟨d,0,none⟩),.int .i64 s.term,.int .i64 s.cu,v])(h2:F j)(h3:bG w F TLg 10 v s.log.length (dD s.log))(h4:eB w Fd d xs k)(h5:∀i,Fd i→F i)(h6:¬Fd j)(h7:∀g,v.ownBlock=some g→¬Fd g)(h8:∀i,F i→i<w.heap.size):
  JTo w F j d xs k ⟨t,u,s.log⟩ ((w.setCell ⟨j,1,none⟩ (.int .i64 t)).setCell ⟨j,2,none⟩ (.int .i64 u)):=by
 have hf:Fr (fun i=>i=j) w ((w.setCell ⟨j,1,none⟩ (.int .i64 t)).setCell ⟨j,2,none⟩ (.int .i64 u)):=((Fr.refl (fun i=>i=j) w).setCell (p:=⟨j,1,none⟩) (.inl rfl) _).setCell (p:=⟨j,2,none⟩) (.inl rfl) _;refine ⟨F,⟨v,Fd,(h1.aU 1 _).aU 2 _,h2,h3.fr' hf (h3.fT h1 dcd),h4.fr hf (fun i hi he=>h6 (he▸hi)),h5,h6,h7,fun i hi=>nll (h8 i hi) hf.size⟩,fun i hi=> .inl hi,hf.mono fun i hi=>hi▸h2⟩
theorem JAt.sD {v' :Value}{l:List Lg}(h1:Blk w j TJ #[.pointer (some ⟨d,0,none⟩),.int .i64 s.term,.int .i64 s.cu,v])(h2:F j)(h3:bG w F TLg 10 v' l.length (dD l))(h4:eB w Fd d xs k)(h5:∀i,Fd i→F i)(h6:¬Fd j)(h7:∀g,v'.ownBlock=some g→¬Fd g)(h8:∀i,F i→i<w.heap.size):
  JTo w F j d xs k ⟨s.term,s.cu,l⟩ (w.setCell ⟨j,3,none⟩ v'):=by
 have hf:Fr (fun i=>i=j) w (w.setCell ⟨j,3,none⟩ v'):=(Fr.refl (fun i=>i=j) w).setCell (p:=⟨j,3,none⟩) (.inl rfl) _;refine ⟨F,⟨v',Fd,h1.aU 3 _,h2,h3.fr' hf (h3.fT h1 dcd),h4.fr hf (fun i hi he=>h6 (he▸hi)),h5,h6,h7,fun i hi=>nll (h8 i hi) hf.size⟩,fun i hi=> .inl hi,hf.mono fun i hi=>hi▸h2⟩
end
theorem vX {w:World}{F:Nat→Prop}{j d:Nat}{xs:List UInt8}{k:Nat}{s:Js}(h:JAt w F j d xs k s)(t v:Int):
  Calls Tryz.prog 150 #[.pointer (some ⟨j,0,none⟩),.int .i64 t,.int .i64 v] w fun e w' =>e= .returned (.int .i64 (bB s t v))∧JTo w F j d xs k (bC s t v) w' :=by
 have hself:=h.self;obtain ⟨A,c,Fd,h1,h2,h3,h4,h5,h6,h7,h8,c0,c1,c2,c3,hn⟩:=h.open_;have hset:=JAt.abt t v h1 h2 h3 h4 h5 h6 h7 h8;have f1:=h1.frozen 1;have f2:=h1.frozen 2;obtain ⟨X,hX⟩:∃X,X=bB s t v:=⟨_,rfl⟩;have hS:bC s t v=if X=0 then ⟨t,v,s.log⟩ else s:=by rw [hX];rfl
 rw [hS,←hX];unfold bB at hX;clear h h1 h2 h3 h4 h5 h6 h7 h8 hn hS;have ajb:X=0→JTo w F j d xs k (if X=0 then ⟨t,v,s.log⟩ else s) ((w.setCell ⟨j,1,none⟩ (.int .i64 t)).setCell ⟨j,2,none⟩ (.int .i64 v)):=fun e=>by rw [if_pos e];exact hset
 have aja:X≠0→JTo w F j d xs k (if X=0 then ⟨t,v,s.log⟩ else s) w:=fun e=>by rw [if_neg e];exact hself
 clear hself hset;obtain ⟨S,hSS⟩:∃S:Js,S=if X=0 then ⟨t,v,s.log⟩ else s:=⟨_,rfl⟩
 rw [←hSS] at ajb aja ⊢;clear hSS;obtain ⟨st,hst⟩:∃st,st=s.term:=⟨_,rfl⟩;obtain ⟨sv,hsv⟩:∃sv,sv=s.cu:=⟨_,rfl⟩;rw [←hst] at c1 hX;rw [←hsv] at c2 hX;clear hst hsv;obtain ⟨aj6,aa6⟩:=aO ajb aja;clear ajb aja
 by_cases g1:t<0
 ·rw [if_pos (.inl g1)] at hX
  have t1:decide (t<0)=true:=by simpa using g1
  subst hX
  go_in
  go_wp2_with fail
  go_ret
  exact ⟨rfl,aa6.out dcd⟩
 have t1:decide (t<0)=false:=by simpa using g1
 by_cases g2:1073741824<t
 ·rw [if_pos (.inr (.inl g2))] at hX
  have t2:decide (1073741824<t)=true:=by simpa using g2
  subst hX
  go_in
  go_wp2_with fail
  go_ret
  exact ⟨rfl,aa6.out dcd⟩
 have t2:decide (1073741824<t)=false:=by simpa using g2
 by_cases g3:v< -1
 ·rw [if_pos (.inr (.inr (.inl g3)))] at hX
  have t3:decide (v< -1)=true:=by simpa using g3
  subst hX
  go_in
  go_wp2_with fail
  go_ret
  exact ⟨rfl,aa6.out dcd⟩
 have t3:decide (v< -1)=false:=by simpa using g3
 by_cases g4:5≤v
 ·rw [if_pos (.inr (.inr (.inr g4)))] at hX
  have t4:decide (5≤v)=true:=by simpa using g4
  subst hX
  go_in
  go_wp2_with fail
  go_ret
  exact ⟨rfl,aa6.out dcd⟩
 have t4:decide (5≤v)=false:=by simpa using g4
 rw [if_neg oy] at hX;clear g1 g2 g3 g4
 by_cases g5:t<st
 ·rw [if_pos (.inl g5)] at hX
  have t5:decide (t<st)=true:=by simpa using g5
  subst hX
  go_in
  go_wp2_with fail
  go_ret
  exact ⟨rfl,aa6.out dcd⟩
 have t5:decide (t<st)=false:=by simpa using g5
 by_cases g6:t=st
 ·have t6:(t == st)=true:=by simpa using g6
  by_cases g7:sv= -1
  ·rw [if_neg oy] at hX
   have t7:(sv != -1)=false:=by simpa using g7
   subst hX;clear g5 g6 g7
   go_in
   go_wp2_with fail
   go_ret
   exact ⟨rfl,aj6.out (by trivial)⟩
  ·have t7:(sv != -1)=true:=by simpa using g7
   by_cases g8:sv=v
   ·rw [if_neg oy] at hX
    have t8:(sv != v)=false:=by simpa using g8
    subst hX;clear g5 g6 g7 g8
    go_in
    go_wp2_with fail
    go_ret
    exact ⟨rfl,aj6.out (by trivial)⟩
   ·rw [if_pos (.inr ⟨g6,g7,g8⟩)] at hX
    have t8:(sv != v)=true:=by simpa using g8
    subst hX;clear g5 g6 g7 g8
    go_in
    go_wp2_with fail
    go_ret
    exact ⟨rfl,aa6.out dcd⟩
 ·rw [if_neg oy] at hX
  have t6:(t == st)=false:=by simpa using g6
  subst hX;clear g5 g6
  go_in
  go_wp2_with fail
  go_ret
  exact ⟨rfl,aj6.out (by trivial)⟩
theorem ala {w:World}{F:Nat→Prop}{j d:Nat}{xs:List UInt8}{k:Nat}{s:Js}(h:JAt w F j d xs k s)(n:Int):
  Calls Tryz.prog 162 #[.pointer (some ⟨j,0,none⟩),.int .i64 n] w fun e w' =>e= .returned (.int .i64 (jg s n))∧JTo w F j d xs k (jP s n) w' :=by
 have hself:=h.self;obtain ⟨A,c,Fd,h1,h2,h3,h4,h5,h6,h7,h8,c0,c1,c2,c3,hn⟩:=h.open_;have f3:=h1.frozen 3;have hcap:=h3.cap
 by_cases g1:n<0
 ·have hx:jg s n=1:=by unfold jg;rw [if_pos (.inl g1)]
  have hy:jP s n=s:=by unfold jP;rw [hx];rfl
  rw [hx,hy];have t1:decide (n<0)=true:=by simpa using g1
  clear h h1 h2 h3 h4 h5 h6 h7 h8 hn hx hy;have yB:=O hself;clear hself
  go_in
  go_wp2_with fail
  go_ret
  exact ⟨rfl,yB.out⟩
 ·have t1:decide (n<0)=false:=by simpa using g1
  by_cases g2:(s.log.length:Int)<n
  ·have hx:jg s n=1:=by unfold jg;rw [if_pos (.inr g2)]
   have hy:jP s n=s:=by unfold jP;rw [hx];rfl
   rw [hx,hy];have t2:decide ((s.log.length:Int)<n)=true:=by simpa using g2
   clear h h1 h2 h3 h4 h5 h6 h7 h8 hn hx hy;have yB:=O hself;clear hself
   go_in
   go_wp2_with fail
   go_ret
   exact ⟨rfl,yB.out⟩
  ·obtain ⟨m,rfl⟩:∃m:Nat,n=(m:Int):=⟨n.toNat,by omega⟩
   have hx:jg s (m:Int)=0:=by unfold jg;rw [if_neg oy]
   have hy:jP s (m:Int)=⟨s.term,s.cu,s.log.take m⟩:=by unfold jP;rw [hx,if_pos rfl,Int.toNat_natCast]
   rw [hx,hy];have t2:decide ((s.log.length:Int)<(m:Int))=false:=by simp;omega
   have hml:m≤s.log.length:=by omega
   have h3c:=h3.cut hml;rw [vW] at h3c;have hfin:=JAt.sD (l:=s.log.take m) (v' := .slice A m c) h1 h2 (by rw [List.length_take,Nat.min_eq_left hml];exact h3c) h4 h5 h6 (fun g hg=>h7 g (by rcases A with _|a<;>exact hg)) h8;have hmc:m≤c:=by omega
   clear h h1 h2 h3 h4 h5 h6 h7 h8 hx hy hself h3c;have bS:=O hfin;clear hfin
   go_in
   go_wp2_with fail
   go_ret
   exact ⟨rfl,bS.out⟩
end
theorem fV:(Tryz.prog.info? TLg).map (fun i=>(i.zero,i.size,i.bytes))=some (some (.agg #[.int .i64 0,.int .i64 0,.int .i64 0,.int .i64 0,.int .i64 0,.int .i64 0,.int .i64 0,.int .i64 0,.int .i64 0,.int .i64 0]),10,80):=by kernel_rfl
theorem JAt.still {w w' :World}{F:Nat→Prop}{j d:Nat}{xs:List UInt8}{k:Nat}{s:Js}(h:JAt w F j d xs k s)(hf:Fr No w w'):JTo w F j d xs k s w' :=⟨F,h.ak hf,fun _ hi=> .inl hi,hf.mono fun _ hi=>hi.elim⟩
theorem JAt.added {w w1 w2:World}{F:Nat→Prop}{j d:Nat}{xs:List UInt8}{k:Nat}{s:Js}{v v' :Value}{Fd:Nat→Prop}{x:Lg}(h1:Blk w j TJ #[.pointer (some ⟨d,0,none⟩),.int .i64 s.term,.int .i64 s.cu,v])(h2:F j)(h3:bG w F TLg 10 v s.log.length (dD s.log))(h4:eB w Fd d xs k)(h5:∀i,Fd i→F i)(h6:¬Fd j)(h7:∀g,v.ownBlock=some g→¬Fd g)(h8:∀i,F i→i<w.heap.size)
  (hf:Fr No w w1) (ha:bN w1 0 TLg 10 v s.log.length (dD s.log) x.cells 1 v' w2):
  Blk w2 j TJ #[.pointer (some ⟨d,0,none⟩),.int .i64 s.term,.int .i64 s.cu,v]∧JTo w F j d xs k ⟨s.term,s.cu,s.log++[x]⟩ (w2.setCell ⟨j,3,none⟩ v'):=by
 have h3' :=h3.ak hf;obtain ⟨o1,-⟩:=h3'.appended ha;have hg:Fr (fun i=>v.ownBlock=some i) w1 w2:=(Fr.refl _ _).grown ha.2.1 fun q hq=> .inl hq;have hs:=hf.size;have hb1:=h1.fr hf id;have hb2:Blk w2 j TJ #[.pointer (some ⟨d,0,none⟩),.int .i64 s.term,.int .i64 s.cu,v]:=hb1.fr hg (fun h=>h3'.fT hb1 dcd j h rfl);have hd2:eB w2 Fd d xs k:=(h4.ak hf).fr hg fun i hi h=>h7 i h hi;refine ⟨hb2,?_⟩;rw [←mV] at o1;have hjt:=JAt.sD (F:=fun i=>F i∨(i=w1.heap.size∧i<w2.heap.size)) (s:=s) (v' :=v') (l:=s.log++[x]) hb2 (.inl h2) (by rw [List.length_append];exact o1) hd2 (fun i hi=> .inl (h5 i hi)) h6 (fun g hgv h=>by
   rcases ha.2.2 with e1|e1
   ·exact h7 g (e1.symm.trans hgv) h
   ·rw [e1] at hgv
    injection hgv with hgv;have:=h8 g (h5 g h)
    omega) (fun i hi=>by
   rcases hi with hi|hi
   ·exact nll (nll (h8 i hi) hs) hg.size
   ·exact hi.2)
 obtain ⟨F',g1,g2,g3⟩:=hjt;refine ⟨F',g1,fun i hi=> ?_,?_⟩
 ·rcases g2 i hi with (h|h)|h
  ·exact .inl h
  ·exact .inr oy
  ·exact .inr (Nat.le_trans (Nat.le_trans hs hg.size) h)
 ·refine (hf.mono (G:=F) fun _ hi=>hi.elim).trans ((hg.mono (G:=fun i=>F i∨w.heap.size≤i) fun i hi=> .inl (h3.2 i hi)).trans (g3.mono (G:=fun i=>F i∨w.heap.size≤i) fun i hi=> ?_) fun i hi=> .inl hi) fun i hi=>hi
  rcases hi with h|h
  ·exact .inl h
  ·exact .inr oy
set_option maxHeartbeats 8000000 in
theorem alc {w:World}{F:Nat→Prop}{j d:Nat}{xs:List UInt8}{k:Nat}{s:Js}(h:JAt w F j d xs k s)(hlen:s.log.length≤4096)(t:Int)(e:En):
  Calls Tryz.prog 121 #[.pointer (some ⟨j,0,none⟩),.int .i64 t,e.v] w fun r w' =>r= .returned (.int .i64 (iB s t e))∧JTo w F j d xs k (gT s t e) w' :=by
 obtain ⟨i0,hi0,hz0,hz1,hz2⟩:=info_parts fV;have hsh:=fun V=>pR e V;obtain ⟨X,hX⟩:∃X,X=iB s t e:=⟨_,rfl⟩;have hS:gT s t e=if X=0 then ⟨s.term,s.cu,s.log++[⟨t,e⟩]⟩ else s:=by rw [hX];rfl
 rw [hS,←hX];unfold iB at hX;revert hsh hX;generalize dW e=b;intro hsh hX;clear hS;obtain ⟨k0,tick,te,ce,ot,ep,fr,un,n⟩:=e;unfold En.v at*;have hstill:=fun w' (hf:Fr No w w')=>h.still hf;have hta:=fun w' (hf:Fr No w w')=>zk (h.ak hf) ((s.log.length:Int)-1);obtain ⟨A,c,Fd,h1,h2,h3,h4,h5,h6,h7,h8,d0,d1,d2,d3,hn⟩:=h.open_;have hjl:=h1.lt;have hcap:=h3.cap;have hput:=fun w1 v' w2 (hf:Fr No w w1) ha=>JAt.added (w2:=w2) (v' :=v') (x:=⟨t,⟨k0,tick,te,ce,ot,ep,fr,un,n⟩⟩) h1 h2 h3 h4 h5 h6 h7 h8 hf ha;have hown:=fun w' (hf:Fr No w w')=>(h3.ak hf).1;obtain ⟨BB,FF⟩:=aO (Blk.new w dR #[.int .i64 k0,.int .i64 tick,.int .i64 te,.int .i64 ce,.int .i64 ot,.int .i64 ep,.int .i64 fr,.int .i64 un,.int .i64 n]) (aj w (.cells #[.int .i64 k0,.int .i64 tick,.int .i64 te,.int .i64 ce,.int .i64 ot,.int .i64 ep,.int .i64 fr,.int .i64 un,.int .i64 n] dR));obtain ⟨c0,c1,c2,c3,c4,c5,c6,c7,c8⟩:=aB BB.out;have hwr:IntKind.i64.wrap ((s.log.length:Int)-1)=(s.log.length:Int)-1:=IntWalk.i64_in _ oy;clear h h2 h3 h4 h5 h6 h7 h8 hn;generalize aD s.log ((s.log.length:Int)-1)=lt at*;obtain ⟨HSH,bZ,HTA,wP,HOWN,H1⟩:=lG hsh hstill hta hput hown h1;clear hsh hstill hta hput hown h1
 by_cases g1:t<1
 ·rw [if_pos (.inl g1)] at hX
  have t1:decide (t<1)=true:=by simpa using g1
  subst hX
  go_in
  go_wp2_with fail
  go_ret
  exact ⟨rfl,bZ.out _ FF.out⟩
 have t1:decide (t<1)=false:=by simpa using g1
 by_cases g2:1073741824<t
 ·rw [if_pos (.inr (.inl g2))] at hX
  have t2:decide (1073741824<t)=true:=by simpa using g2
  subst hX
  go_in
  go_wp2_with fail
  go_ret
  exact ⟨rfl,bZ.out _ FF.out⟩
 have t2:decide (1073741824<t)=false:=by simpa using g2
 have HX:=O hX;clear hX
 go_in
 go_wp2_with fail
 refine (HSH.out _).mono ?_;rintro r w5 ⟨rfl,f5⟩;replace FF:=O (FF.out.ah f5);replace BB:=O (BB.out.fr f5 id);clear f5 c0 c1 c2 c3 c4 c5 c6 c7 c8 d0 d1 d2 d3;obtain ⟨c0,c1,c2,c3,c4,c5,c6,c7,c8⟩:=aB BB.out;have hb5:=H1.out.fr FF.out id;have d1:w5.cell? ⟨j,1,none⟩=some (.int .i64 s.term):=hb5.cell 1;have d3:w5.cell? ⟨j,3,none⟩=some (.slice A s.log.length c):=hb5.cell 3;have an8:=hb5.lt;clear hb5
 cases b
 ·have hX:=HX.out
  rw [if_pos (.inr (.inr rfl))] at hX;subst hX;clear HX
  go_wp2_with fail
  go_ret
  exact ⟨rfl,bZ.out _ FF.out⟩
 have hX:=HX.out;rw [if_neg (by simp;omega)] at hX;clear HX
 by_cases g3:s.term<t
 ·rw [if_pos (.inl g3)] at hX
  have t3:decide (s.term<t)=true:=by simpa using g3
  subst hX
  go_wp2_with fail
  go_ret
  exact ⟨rfl,bZ.out _ FF.out⟩
 have t3:decide (s.term<t)=false:=by simpa using g3
 have HX:=O hX;clear hX
 go_wp2_with fail
 refine (HTA.out _ FF.out).mono ?_;rintro r w6 ⟨rfl,f6⟩;replace FF:=O (FF.out.ah f6);replace BB:=O (BB.out.fr f6 id);clear f6 c0 c1 c2 c3 c4 c5 c6 c7 c8 d1 d3 an8;obtain ⟨c0,c1,c2,c3,c4,c5,c6,c7,c8⟩:=aB BB.out;have hb5:=H1.out.fr FF.out id;have d3:w6.cell? ⟨j,3,none⟩=some (.slice A s.log.length c):=hb5.cell 3;have q3:=hb5.frozen 3;have arp:=hb5.lt;have hel:=BB.out.lt;clear hb5;have hX:=HX.out;clear HX
 by_cases g4:t<lt
 ·rw [if_pos (.inr g4)] at hX
  have t4:decide (t<lt)=true:=by simpa using g4
  subst hX
  go_wp2_with fail
  go_ret
  exact ⟨rfl,bZ.out _ FF.out⟩
 have t4:decide (t<lt)=false:=by simpa using g4
 rw [if_neg oy] at hX
 by_cases g5:4096≤s.log.length
 ·rw [if_pos g5] at hX
  have t5:decide ((4096:Int)≤(s.log.length:Int))=true:=by simp;omega
  subst hX
  go_wp2_with fail
  go_ret
  exact ⟨rfl,bZ.out _ FF.out⟩
 have t5:decide ((4096:Int)≤(s.log.length:Int))=false:=by simp;omega
 rw [if_neg g5] at hX;subst hX
 go_wp2_with fail
 go_region_law (refine bf _ (by rfl) (.tmp 46) (.tmp 50) _ (by rfl) 0 TLg i0 _ 10 80 Tryz.underlying34 hi0 hz0 hz1 hz2 rfl dcd (.slice A s.log.length c) s.log.length (dD s.log) (by rfl) (HOWN.out _ ((FF.out.drew).alloc _)) (w6.heap.size+1) (some ⟨w6.heap.size,0,none⟩) 1 1 (Lg.cells ⟨t,⟨k0,tick,te,ce,ot,ep,fr,un,n⟩⟩) (by rfl) (fun h=>by cases h) (Rd.new w6.drew _ TLg rfl) rfl (by simp [Lg.cells,Value.oneCell']) mxl oy (Nat.zero_le _) ?_;intro v1 w1 happ;obtain ⟨A4,c4,rfl,n4⟩:=aC happ.1;clear n4;obtain ⟨hbj,hjt⟩:=wP.out _ _ w1 ((FF.out.drew).alloc _) happ;have x3:w1.cell? ⟨j,3,none⟩=some (.slice A s.log.length c):=hbj.cell 3;have y3:=hbj.frozen 3;have HJT:=O hjt;clear happ hbj hjt)
 all_goals
  go_wp2_with fail
  go_ret
  exact ⟨rfl,HJT.out⟩
theorem JTo.after {w w1 w' :World}{F:Nat→Prop}{j d:Nat}{xs:List UInt8}{k:Nat}{s:Js}(hf:Fr No w w1)(h:JTo w1 F j d xs k s w'):JTo w F j d xs k s w' :=by
 obtain ⟨F',h1,h2,h3⟩:=h;exact ⟨F',h1,fun i hi=>(h2 i hi).imp id (Nat.le_trans hf.size),(hf.mono (G:=F) fun _ hi=>hi.elim).trans h3 fun i hi=> .inl hi⟩
set_option maxHeartbeats 1000000 in
theorem qG (A0:Option Addr)(m c0:Nat)(q:List Int)(w:World)(B0:Nat)(hA0:A0=none→m=0)(hq:q.length=m)(hr0:Rd w B0 A0 (q.map iv))(hB0:B0≤w.heap.size)(hb:∀x∈q,-9223372036854775808≤x∧x≤9223372036854775807)(hsz:m≤1000):
  Calls Tryz.prog 123 #[.slice A0 m c0] w fun e w' =>∃A' c',e= .returned (.slice A' (dn q).length c')∧Own w' (fun i=>w.heap.size≤i) 5 (.slice A' (dn q).length c') ((dn q).map bv)∧Fr No w w' :=by
 obtain ⟨HA0,HQ,HR0,HB⟩:=fK hA0 hq hr0 hb;clear hA0 hq hr0 hb
 go_in
 go_wp2_with fail
 go_loopw [3,8] (fun o i wr=>∃(A' :Option Addr) (c' k:Nat) (p:List UInt8),k≤m∧i= .int .i64 k∧p=dn (q.take k)∧p.length≤10*k∧o= .slice A' p.length c'∧Own wr (fun i=>w.heap.size≤i) 5 (.slice A' p.length c') (p.map bv)∧Fr No w wr) (fun _ i _=>m-(intOf i).toNat)
 case atStart=>exact ⟨none,0,0,[],Nat.zero_le _,rfl,by simp [dn],by simp,rfl,Own.nil _ _ _,Fr.refl _ _⟩
 case round=>
  obtain ⟨A',c',k,p,hk,rfl,hp,hpl,rfl,ho,hf⟩:=hrel;obtain ⟨HP,O3,F3⟩:=bP hp ho hf;have hs3:w.heap.size≤wr.heap.size:=hf.size;clear hp ho hf
  by_cases hlt:k<m
  ·obtain ⟨b,off,rfl,_,hc⟩:=HR0.out.at_ (by rw [List.length_map,HQ.out];omega)
   have hkl:k<q.length:=by rw [HQ.out];exact hlt
   have hck:=HR0.out.ak F3.out hB0|>.at_ (by rw [List.length_map,HQ.out];omega);obtain ⟨b',off',hbe,_,hc'⟩:=hck;injection hbe with hbe;injection hbe with hb1 hb2;subst hb1 hb2;have hck:=hc' k (by rw [List.length_map];exact hkl);simp only [List.getElem_map] at hck;obtain ⟨HS,HX⟩:=aO (List.take_succ_eq_append_getElem hkl) (HB.out q[k] (List.getElem_mem hkl));have uQ:=aP _ (bq q[k] HX.out.1 HX.out.2);generalize q[k]=x at*;clear hc hc'
   go_wp2_with fail
   refine (iN A' p.length c' x p _ _ O3.out.len.2 rfl O3.out.rd (Nat.le_refl _) HX.out.1 HX.out.2 oy).mono ?_;rintro e w4 ⟨A4,c4,rfl,o4,f4⟩;obtain ⟨O4,F4⟩:=aO (o4.mono (G:=fun i=>w.heap.size≤i) fun i hi=>by omega) (F3.out.ah f4);clear o4 f4
   go_wp2_with fail
   go_roundw
   case rel=>
    refine ⟨A4,c4,k+1,p++bX (aV x),by omega,by go_num,by rw [HS.out,bM,HP.out],by rw [List.length_append];omega,?_,?_,F4.out⟩
    ·rw [List.length_append]
    ·rw [List.length_append];exact O4.out
   case measure=>simp [intOf];omega
  ·have hpe:p=dn q:=by rw [HP.out,List.take_of_length_le (by rw [HQ.out];omega)]
   subst hpe
   go_wp2_with fail
   go_ret
   exact ⟨A',c',rfl,O3.out,F3.out⟩
set_option maxHeartbeats 2000000 in
theorem xS {w:World}{F:Nat→Prop}{j d:Nat}{xs:List UInt8}{k:Nat}{s:Js}(h:JAt w F j d xs k s)(A:Option Addr)(m c:Nat)(r:List UInt8)(B:Nat)(hA:A=none→m=0)(hr:Rd w B A (r.map bv))(hm:r.length=m)(hB:B≤w.heap.size)(hm2:m≤65536)(hsz:xs.length+18+m≤140737488355328):
  Calls Tryz.prog 122 #[.pointer (some ⟨j,0,none⟩),.slice A m c] w fun e w' =>e= .returned (.tuple #[])∧JTo w F j d (xs++eT 8 r) k s w' :=by
 obtain ⟨A1,c1,Fd,h1,h2,h3,h4,h5,h6,h7,h8,d0,d1,d2,d3,hn⟩:=h.open_;have hjl:=h1.lt;have hpl:=dX 8 r oy;have hput:=fun V (hf:Fr No w V)=>acz none 0 0 8 A m c [] r V B (fun _=>rfl) rfl (.inl rfl) hA hm (hr.ak hf hB) (Nat.le_trans hB hf.size) oy hm2;simp only [List.nil_append] at hput;have alx:=fun V (hf:Fr No w V) A2 c2 B2 (h:Own V (fun i=>B2≤i) 5 (.slice A2 (eT 8 r).length c2) ((eT 8 r).map bv))=>yh V Fd d xs k (h4.ak hf) A2 (eT 8 r).length c2 (eT 8 r) V.heap.size h.len.2 h.rd rfl oy;have hfin:=fun V V' (hf:Fr No w V) (hd:kI V Fd d (xs++eT 8 r) k V')=>JAt.disk (h1.fr hf id) h2 (h3.ak hf) h5 h6 h7 (fun i hi=>nll (h8 i hi) hf.size) hd;have hcell:=fun V V' (hf:Fr No w V) (hd:kI V Fd d (xs++eT 8 r) k V')=>(((h1.fr hf id).fr (let ⟨_,_,_,g⟩:=hd;g:Fr Fd V V') h6).cell 0:V'.cell? ⟨j,0,none⟩=some (.pointer (some ⟨d,0,none⟩)));have ad1:=fun V (hf:Fr No w V)=>((h1.fr hf id).cell 0:V.cell? ⟨j,0,none⟩=some (.pointer (some ⟨d,0,none⟩)));clear h h1 h2 h3 h4 h5 h6 h7 h8 hn d1 d2 d3;generalize eT 8 r=R at*;obtain ⟨wP,apb,bS,aj2,aj3⟩:=jr hput alx hfin hcell ad1;clear hput alx hfin hcell ad1
 go_in
 go_wp2_with fail
 go_region_held3 (fun V=>V.cell? ⟨j,0,none⟩=some (.pointer (some ⟨d,0,none⟩))) (first|exact q2|exact q1|exact d0) (first
  |(go_at_call 153;refine (wP.out _ (Fr.refl No w).drew).mono ?_;rintro e w5 ⟨A5,c5,rfl,o5,f5⟩;have FF:=O ((Fr.refl No w).drew.ah f5);have q1:=aj3.out _ FF.out;have O5:=O o5;clear o5 f5)
  |(go_at_call 152;refine (apb.out _ FF.out _ _ _ O5.out).mono ?_;rintro e w6 ⟨rfl,d6⟩;have q2:=aj2.out _ _ FF.out d6;have D6:=O (JTo.after FF.out (bS.out _ _ FF.out d6));clear d6))
 go_wp2_with fail
 go_end0
 exact ⟨rfl,D6.out⟩
theorem ak9 {w:World}{F:Nat→Prop}{j d:Nat}{xs:List UInt8}{k:Nat}{s:Js}(h:JAt w F j d xs k s):
  Calls Tryz.prog 87 #[.pointer (some ⟨j,0,none⟩)] w fun e w' =>e= .returned (.tuple #[])∧JTo w F j d xs xs.length s w' :=by
 obtain ⟨A1,c1,Fd,h1,h2,h3,h4,h5,h6,h7,h8,d0,d1,d2,d3,hn⟩:=h.open_;have hfin:=fun V' (hd:kI w Fd d xs xs.length V')=>JAt.disk h1 h2 h3 h5 h6 h7 h8 hd;have hsy:=aec w Fd d xs k h4;clear h h1 h2 h3 h4 h5 h6 h7 h8 hn d1 d2 d3;obtain ⟨bS,HSY⟩:=aO hfin hsy;clear hfin hsy
 go_in
 go_wp2_with fail
 refine HSY.out.mono ?_;rintro e w1 ⟨rfl,d1⟩;have D1:=O (bS.out _ d1);clear d1
 go_wp2_with fail
 go_end0
 exact ⟨rfl,D1.out⟩
theorem wT {s:Js}{t v:Int}(h:bB s t v=0):0≤t∧t≤1073741824∧-1≤v∧v<5:=by
 unfold bB at h
 by_cases hc:t<0∨1073741824<t∨v< -1∨5≤v
 ·rw [if_pos hc] at h
  exact absurd h dcd
 ·omega
theorem mF {s:Js}{t:Int}{e:En}(h:iB s t e=0):1≤t∧t≤1073741824∧dW e=true∧t≤s.term∧aD s.log ((s.log.length:Int)-1)≤t∧s.log.length<4096:=by
 unfold iB at h
 by_cases hc:t<1∨1073741824<t∨dW e=false
 ·rw [if_pos hc] at h
  exact absurd h dcd
 ·rw [if_neg hc] at h
  by_cases hc2:s.term<t∨t<aD s.log ((s.log.length:Int)-1)
  ·rw [if_pos hc2] at h
   exact absurd h dcd
  ·rw [if_neg hc2] at h
   by_cases hc3:4096≤s.log.length
   ·rw [if_pos hc3] at h
    exact absurd h dcd
   ·have hs:dW e=true:=by
     cases hq:dW e
     ·exact absurd (Or.inr (Or.inr hq)) hc
     ·rfl
    exact ⟨by omega,by omega,hs,by omega,by omega,by omega⟩
theorem yj {s:Js}{n:Int}(h:jg s n=0):0≤n∧n≤s.log.length:=by
 unfold jg at h
 by_cases hc:n<0∨(s.log.length:Int)<n
 ·rw [if_pos hc] at h
  exact absurd h dcd
 ·omega
set_option maxHeartbeats 2000000 in
theorem adt {w:World}{F:Nat→Prop}{j d:Nat}{xs:List UInt8}{k:Nat}{s:Js}(h:JAt w F j d xs k s)(t v:Int)(hsz:xs.length+100≤140737488355328):
  Calls Tryz.prog 119 #[.pointer (some ⟨j,0,none⟩),.int .i64 t,.int .i64 v] w fun e w' =>e= .returned (.int .i64 (bB s t v))∧JTo w F j d (if bB s t v=0 then xs++eT 8 (zY t v) else xs) k (bC s t v) w' :=by
 have hset:=vX h t v;have hbd:=fun hx=>wT (s:=s) (t:=t) (v:=v) hx;revert hset hbd;generalize bB s t v=X;generalize bC s t v=S;intro hset hbd;clear h;obtain ⟨Y,hY⟩:∃Y,Y=if X=0 then xs++eT 8 (zY t v) else xs:=⟨_,rfl⟩
 rw [←hY];obtain ⟨jQ,HY⟩:=aO hset hY;clear hset hY
 go_in
 go_wp2_with fail
 refine jQ.out.mono ?_;rintro e w1 ⟨rfl,j1⟩;clear jQ
 by_cases hx:X=0
 ·subst hx
  have hb:=hbd rfl;obtain ⟨F1,a1,i1,f1⟩:=j1;have hq:∀x∈[(1:Int),t,v],-9223372036854775808≤x∧x≤9223372036854775807:=by
   intro x hx
   simp at hx
   omega
  have hrl:=iM _ hq;simp only [List.length_cons,List.length_nil] at hrl;clear hbd;obtain ⟨A1,I1,F1,HQ⟩:=fK a1 i1 f1 hq;clear a1 i1 f1 hq;have hy:Y=xs++eT 8 (dn [1,t,v]):=by rw [HY.out,if_pos rfl];rfl
  clear HY;have HY:=O hy;clear hy
  go_wp2_with fail
  refine (qG (some ⟨w1.heap.size,0,none⟩) 3 3 [1,t,v] _ (w1.heap.size+1) (fun h=>by cases h) rfl (Rd.new w1 [.int .i64 1,.int .i64 t,.int .i64 v] 3 rfl) (by simp) HQ.out oy).mono ?_;rintro e w2 ⟨A2,c2,rfl,o2,f2⟩;obtain ⟨F2,O2⟩:=aO ((aj w1 (.cells #[.int .i64 1,.int .i64 t,.int .i64 v] 3)).ah f2) o2;clear o2 f2
  go_wp2_with fail
  refine (xS (A1.out.ak F2.out) A2 _ c2 (dn [1,t,v]) w2.heap.size O2.out.len.2 O2.out.rd rfl (Nat.le_refl _) oy oy).mono ?_;rintro e w3 ⟨rfl,j3⟩;have J3:=O (JTo.after F2.out j3);clear j3
  go_wp2_with fail
  go_ret
  refine ⟨rfl,?_⟩;rw [HY.out];obtain ⟨F',g1,g2,g3⟩:=J3.out;exact ⟨F',g1,fun i hi=>(g2 i hi).elim (fun h=>I1.out i h) (fun h=> .inr (Nat.le_trans F1.out.size h)),F1.out.trans g3 I1.out⟩
 ·have b1:(X == 0)=false:=by simpa using hx
  have b2:(X != 0)=true:=by simpa using hx
  have hy:Y=xs:=by rw [HY.out,if_neg hx]
  clear hbd HY;obtain ⟨J1,HX,HY⟩:=bP j1 hx hy;clear j1 hx hy
  go_wp2_with fail
  go_ret
  exact ⟨rfl,by rw [HY.out];exact J1.out⟩
set_option maxHeartbeats 2000000 in
theorem anx {w:World}{F:Nat→Prop}{j d:Nat}{xs:List UInt8}{k:Nat}{s:Js}(h:JAt w F j d xs k s)(n:Int)(hlen:s.log.length≤4096)(hsz:xs.length+100≤140737488355328):
  Calls Tryz.prog 169 #[.pointer (some ⟨j,0,none⟩),.int .i64 n] w fun e w' =>e= .returned (.int .i64 (jg s n))∧JTo w F j d (if jg s n=0 then xs++eT 8 (recC n) else xs) k (jP s n) w' :=by
 have hset:=ala h n;have hbd:=fun hx=>yj (s:=s) (n:=n) hx;revert hset hbd;generalize jg s n=X;generalize jP s n=S;intro hset hbd;clear h;obtain ⟨Y,hY⟩:∃Y,Y=if X=0 then xs++eT 8 (recC n) else xs:=⟨_,rfl⟩
 rw [←hY];obtain ⟨jQ,HY⟩:=aO hset hY;clear hset hY
 go_in
 go_wp2_with fail
 refine jQ.out.mono ?_;rintro e w1 ⟨rfl,j1⟩;clear jQ
 by_cases hx:X=0
 ·subst hx
  have hb:=hbd rfl;obtain ⟨F1,a1,i1,f1⟩:=j1;have hq:∀x∈[(3:Int),n],-9223372036854775808≤x∧x≤9223372036854775807:=by
   intro x hx
   simp at hx
   omega
  have hrl:=iM _ hq;simp only [List.length_cons,List.length_nil] at hrl;clear hbd;obtain ⟨A1,I1,F1,HQ⟩:=fK a1 i1 f1 hq;clear a1 i1 f1 hq;have hy:Y=xs++eT 8 (dn [3,n]):=by rw [HY.out,if_pos rfl];rfl
  clear HY;have HY:=O hy;clear hy
  go_wp2_with fail
  refine (qG (some ⟨w1.heap.size,0,none⟩) 2 2 [3,n] _ (w1.heap.size+1) (fun h=>by cases h) rfl (Rd.new w1 [.int .i64 3,.int .i64 n] 3 rfl) (by simp) HQ.out oy).mono ?_;rintro e w2 ⟨A2,c2,rfl,o2,f2⟩;obtain ⟨F2,O2⟩:=aO ((aj w1 (.cells #[.int .i64 3,.int .i64 n] 3)).ah f2) o2;clear o2 f2
  go_wp2_with fail
  refine (xS (A1.out.ak F2.out) A2 _ c2 (dn [3,n]) w2.heap.size O2.out.len.2 O2.out.rd rfl (Nat.le_refl _) oy oy).mono ?_;rintro e w3 ⟨rfl,j3⟩;have J3:=O (JTo.after F2.out j3);clear j3
  go_wp2_with fail
  go_ret
  refine ⟨rfl,?_⟩;rw [HY.out];obtain ⟨F',g1,g2,g3⟩:=J3.out;exact ⟨F',g1,fun i hi=>(g2 i hi).elim (fun h=>I1.out i h) (fun h=> .inr (Nat.le_trans F1.out.size h)),F1.out.trans g3 I1.out⟩
 ·have b1:(X == 0)=false:=by simpa using hx
  have b2:(X != 0)=true:=by simpa using hx
  have hy:Y=xs:=by rw [HY.out,if_neg hx]
  clear hbd HY;obtain ⟨J1,HX,HY⟩:=bP j1 hx hy;clear j1 hx hy
  go_wp2_with fail
  go_ret
  exact ⟨rfl,by rw [HY.out];exact J1.out⟩
theorem zl {w:World}{F:Nat→Prop}{j d:Nat}{xs:List UInt8}{k:Nat}{s:Js}(h:JAt w F j d xs k s)(hlen:s.log.length≤4096)(t:Int)(e:En)(he:e.ok)(hsz:xs.length+200≤140737488355328):
  Calls Tryz.prog 86 #[.pointer (some ⟨j,0,none⟩),.int .i64 t,e.v] w fun r w' =>r= .returned (.int .i64 (iB s t e))∧JTo w F j d (if iB s t e=0 then xs++eT 8 (yN t e) else xs) k (gT s t e) w' :=by
 obtain ⟨i0,hi0,hz0,hz1,hz2⟩:=info_parts bD;have hadd:=fun W (hf:Fr No w W)=>alc (h.ak hf) hlen t e;have hbd:=fun hx=>mF (s:=s) (t:=t) (e:=e) hx;have hlt:=h.lt;have hby:=fun V=>aej e V he;have hbl:=yg e he;obtain ⟨X,hX⟩:∃X,X=iB s t e:=⟨_,rfl⟩;obtain ⟨S,hS⟩:∃S,S=gT s t e:=⟨_,rfl⟩;rw [←hX] at hbd;simp only [←hX,←hS] at hadd;rw [←hX,←hS];clear hX hS h he;obtain ⟨Y,hY⟩:∃Y,Y=if X=0 then xs++eT 8 (yN t e) else xs:=⟨_,rfl⟩
 rw [←hY];unfold yN at hY;generalize enB e=EB at*;obtain ⟨k0,tick,te,ce,ot,ep,fr,un,n⟩:=e;unfold En.v at*;obtain ⟨BB,FF⟩:=aO (Blk.new w dR #[.int .i64 k0,.int .i64 tick,.int .i64 te,.int .i64 ce,.int .i64 ot,.int .i64 ep,.int .i64 fr,.int .i64 un,.int .i64 n]) (aj w (.cells #[.int .i64 k0,.int .i64 tick,.int .i64 te,.int .i64 ce,.int .i64 ot,.int .i64 ep,.int .i64 fr,.int .i64 un,.int .i64 n] dR));obtain ⟨c0,c1,c2,c3,c4,c5,c6,c7,c8⟩:=aB BB.out;obtain ⟨W0,hW0⟩:∃W0,W0=w.alloc (.cells #[.int .i64 k0,.int .i64 tick,.int .i64 te,.int .i64 ce,.int .i64 ot,.int .i64 ep,.int .i64 fr,.int .i64 un,.int .i64 n] dR):=⟨_,rfl⟩;have hs0:W0.heap.size=w.heap.size+1:=by rw [hW0];simp
 obtain ⟨ag4,HY,HBY,HLT⟩:=fK hadd hY hby hlt;clear hadd hY hby hlt
 go_in
 go_wp2_with fail
 rw [←hW0] at BB FF ⊢;refine (ag4.out _ FF.out).mono ?_;rintro r W ⟨rfl,j1⟩;clear ag4 c0 c1 c2 c3 c4 c5 c6 c7 c8 hW0
 by_cases hx:X=0
 ·subst hx
  have hb:=hbd rfl;obtain ⟨G1,a1,i1,f1⟩:=j1;obtain ⟨g,hg⟩:∃g,g=w.heap.size:=⟨_,rfl⟩;rw [←hg] at BB ⊢;have hg1:¬G1 g:=by
   intro hh
   rcases i1 g hh with h|h
   ·have:=HLT.out g h
    omega
   ·omega
  have hg0:¬F g:=by
   intro hh;have:=HLT.out g hh
   omega
  have b5:Blk W g dR #[.int .i64 k0,.int .i64 tick,.int .i64 te,.int .i64 ce,.int .i64 ot,.int .i64 ep,.int .i64 fr,.int .i64 un,.int .i64 n]:=BB.out.fr f1 hg0;have hq:∀x∈[(2:Int),t],-9223372036854775808≤x∧x≤9223372036854775807:=by
   intro x hx
   simp at hx
   omega
  have hrl:=iM _ hq;simp only [List.length_cons,List.length_nil] at hrl;have hS:∀V,Fr G1 W V→V.cell? ⟨g,0,none⟩=some (.int .i64 k0)∧V.cell? ⟨g,1,none⟩=some (.int .i64 tick)∧V.cell? ⟨g,2,none⟩=some (.int .i64 te)∧V.cell? ⟨g,3,none⟩=some (.int .i64 ce)∧V.cell? ⟨g,4,none⟩=some (.int .i64 ot)∧V.cell? ⟨g,5,none⟩=some (.int .i64 ep)∧V.cell? ⟨g,6,none⟩=some (.int .i64 fr)∧V.cell? ⟨g,7,none⟩=some (.int .i64 un)∧V.cell? ⟨g,8,none⟩=some (.int .i64 n):=fun V hV=>⟨(b5.fr hV hg1).cell 0,(b5.fr hV hg1).cell 1,(b5.fr hV hg1).cell 2,(b5.fr hV hg1).cell 3,(b5.fr hV hg1).cell 4,(b5.fr hV hg1).cell 5,(b5.fr hV hg1).cell 6,(b5.fr hV hg1).cell 7,(b5.fr hV hg1).cell 8⟩;have hy:Y=xs++eT 8 (dn [2,t]++EB):=by rw [HY.out,if_pos rfl]
  have f2:=FF.out;clear hbd HY BB b5 hg1 hg0 hg FF;obtain ⟨A1,I1,F1,HQ,HS,HY,F2⟩:=nC a1 i1 f1 hq hS hy f2;clear a1 i1 f1 hq hS hy f2;have HSS:=HS
  go_wp2_with fail
  generalize hIN:dn [2,t]=IN at*;refine wp_region_held_drew (S:=fun V=>V.cell? ⟨g,0,none⟩=some (.int .i64 k0)∧V.cell? ⟨g,1,none⟩=some (.int .i64 tick)∧V.cell? ⟨g,2,none⟩=some (.int .i64 te)∧V.cell? ⟨g,3,none⟩=some (.int .i64 ce)∧V.cell? ⟨g,4,none⟩=some (.int .i64 ot)∧V.cell? ⟨g,5,none⟩=some (.int .i64 ep)∧V.cell? ⟨g,6,none⟩=some (.int .i64 fr)∧V.cell? ⟨g,7,none⟩=some (.int .i64 un)∧V.cell? ⟨g,8,none⟩=some (.int .i64 n)) (by kernel_rfl) (HSS.out _ ((Fr.refl G1 W).drew)) (fun hHeld=> ?_);refine wpAnyH_take (i:=0) (v:= ?_) rfl (by kernel_rfl) (by kernel_rfl) (by kernel_rfl) (fun _ _ _ h=>h) (Or.inl ⟨by rfl,?_⟩) (by assumption) ?_
  rotate_left
  ·(intro w hSw;(try dsimp only at hSw);go_simp)<;>with_reducible rfl
  simp only [Act.put,List.setIfInBounds_toArray,List.set_cons_zero,List.set_cons_succ,List.getElem_toArray,List.getElem_cons_zero];refine wpAnyH_take (i:=1) (v:= ?_) rfl (by kernel_rfl) (by kernel_rfl) (by kernel_rfl) (fun _ _ _ h=>h) (Or.inl ⟨by rfl,?_⟩) (by assumption) ?_
  rotate_left
  ·(intro w hSw;(try dsimp only at hSw);go_simp)<;>with_reducible rfl
  simp only [Act.put,List.setIfInBounds_toArray,List.set_cons_zero,List.set_cons_succ,List.getElem_toArray,List.getElem_cons_zero,List.getElem_cons_succ];refine wpAnyH_take (i:=4) (v:= ?_) rfl (by kernel_rfl) (by kernel_rfl) (by kernel_rfl) (fun _ _ _ h=>h) (Or.inl ⟨by rfl,?_⟩) (by assumption) ?_
  rotate_left
  ·(intro w hSw;(try dsimp only at hSw);go_simp)<;>with_reducible rfl
  simp only [Act.put,List.setIfInBounds_toArray,List.set_cons_zero,List.set_cons_succ,List.getElem_toArray,List.getElem_cons_zero,List.getElem_cons_succ];refine wpAnyH_ready (rs:=[2]) (by kernel_rfl) (by simp) (AllReadyH.cons rfl (fun K hK=> ?_) AllReadyH.nil)
  go_simp
  clear hHeld;refine hK.out _ _ (HSS.out _ (((Fr.refl G1 W).drew).alloc _)) (fun hHeld=> ?_);clear hK K
  try simp only [Act.put,List.setIfInBounds_toArray,List.set_cons_zero,List.set_cons_succ,List.getElem_toArray,List.getElem_cons_zero,List.getElem_cons_succ]
  refine wpAnyH_ready (rs:=[3]) (by kernel_rfl) (by simp) (AllReadyH.cons rfl (fun K hK=> ?_) AllReadyH.nil)
  go_simp
  refine (qG (some ⟨W.heap.size,0,none⟩) 2 2 [2,t] _ (W.heap.size+1) (fun h=>by cases h) rfl (Rd.new W.drew [.int .i64 2,.int .i64 t] 3 rfl) (by simp) HQ.out oy).mono ?_;rintro e w4 ⟨A4,d4,rfl,o4,f4⟩;rw [hIN] at o4 ⊢;obtain ⟨q4,O4⟩:=aO ((((Fr.refl No W).drew).alloc (.cells #[.int .i64 2,.int .i64 t] 3)).ah f4) (o4.mono (G:=fun i=>W.heap.size≤i) fun i hi=>by simp at hi;omega);clear o4 f4
  go_wp2_with fail
  clear hHeld;refine hK.out _ _ (HSS.out _ (q4.out.mono fun _ h=>h.elim)) (fun hHeld=> ?_);clear hK K
  try simp only [Act.put,List.setIfInBounds_toArray,List.set_cons_zero,List.set_cons_succ,List.getElem_toArray,List.getElem_cons_zero,List.getElem_cons_succ]
  refine wpAnyH_ready (rs:=[5]) (by kernel_rfl) (by simp) (AllReadyH.cons rfl (fun K hK=> ?_) AllReadyH.nil)
  go_simp
  refine (HBY.out _).mono ?_;rintro e w5 ⟨A5,d5,rfl,o5,f5⟩;obtain ⟨q5,P4,O5⟩:=bP (q4.out.ah f5) (O4.out.ak f5) o5;clear o5 f5 q4 O4
  go_wp2_with fail
  clear hHeld;refine hK.out _ _ (HSS.out _ (q5.out.mono fun _ h=>h.elim)) (fun hHeld=> ?_);clear hK K
  try simp only [Act.put,List.setIfInBounds_toArray,List.set_cons_zero,List.set_cons_succ,List.getElem_toArray,List.getElem_cons_zero,List.getElem_cons_succ]
  refine wpAnyH_ready (rs:=[6]) (by kernel_rfl) (by simp) (AllReadyH.cons rfl (fun K hK=> ?_) AllReadyH.nil);refine gM _ (by rfl) (.tmp 18) (.tmp 20) _ (by rfl) 0 5 i0 _ 1 Tryz.underlying128 hi0 hz0 hz1 hz2 rfl (.slice A4 IN.length d4) IN.length (IN.map bv) (by rfl) (P4.out.own (by rw [List.length_map])) w5.heap.size A5 EB.length d5 (EB.map bv) (by rfl) O5.out.len.2 O5.out.rd (by rw [List.length_map]) (dS _) mxl oy (Nat.zero_le _) ?_;intro v6 w6 happ;obtain ⟨o6,f6⟩:=P4.out.appended (by rw [List.length_map]) (by rw [List.length_map]) happ;rw [←List.map_append] at o6;obtain ⟨A6,d6,rfl,n6⟩:=o6.form;rw [List.length_map,List.length_append] at o6 ⊢;obtain ⟨q6,O6⟩:=aO (q5.out.aA f6 fun i hi=>hi) o6;clear happ o6 f6 n6 P4 O5 q5 hHeld;refine hK.out _ _ (HSS.out _ (q6.out.mono fun _ h=>h.elim)) (fun hHeld=> ?_);clear hK K
  try simp only [Act.put,List.setIfInBounds_toArray,List.set_cons_zero,List.set_cons_succ,List.getElem_toArray,List.getElem_cons_zero,List.getElem_cons_succ]
  refine wpAnyH_ready (rs:=[7]) (by kernel_rfl) (by simp) (AllReadyH.cons rfl (fun K hK=> ?_) AllReadyH.nil)
  go_simp
  refine (xS (A1.out.ak q6.out) A6 (IN.length+EB.length) d6 (IN++EB) w6.heap.size O6.out.len.2 O6.out.rd List.length_append (Nat.le_refl _) oy oy).mono ?_;rintro e w7 ⟨rfl,j7⟩;have q7:Hid (Fr G1 W w7):=O (let ⟨_,_,_,g⟩:=JTo.after q6.out j7;g);have J7:=O (JTo.after q6.out j7);clear j7
  go_wp2_with fail
  clear hHeld;refine hK.out _ _ (HSS.out _ q7.out) (fun hHeld=> ?_);clear hK K
  try simp only [Act.put,List.setIfInBounds_toArray,List.set_cons_zero,List.set_cons_succ,List.getElem_toArray,List.getElem_cons_zero,List.getElem_cons_succ]
  refine wpAnyH_done (by kernel_rfl) ?_ _
  go_wp2_with fail
  go_ret
  refine ⟨rfl,?_⟩;rw [HY.out];obtain ⟨F',g1,g2,g3⟩:=J7.out;refine JTo.after F2.out ⟨F',g1,fun i hi=>(g2 i hi).elim (fun h=>I1.out i h) (fun h=> .inr (Nat.le_trans F1.out.size h)),F1.out.trans g3 I1.out⟩
 ·have b1:(X == 0)=false:=by simpa using hx
  have b2:(X != 0)=true:=by simpa using hx
  have hy:Y=xs:=by rw [HY.out,if_neg hx]
  have j2:=JTo.after FF.out j1;clear hbd HY j1 FF BB;obtain ⟨J2,HX,HY⟩:=bP j2 hx hy;clear j2 hx hy
  go_wp2_with fail
  go_ret
  exact ⟨rfl,by rw [HY.out];exact J2.out⟩
end Go.Proofs.YtjnfmfmglehmbaaGreat
