/-
  The law's 'likely'.
-/
import Derived.Test.YtjnfmfmglehmbaaGreatQ58
import Derived.Deep.CutRange
import Derived.Deep.Light
import Derived.Deep.RegionHeld3
import Derived.Deep.CutBlock
import Derived.StillTailTactics
import Derived.Deep.RegionLaw
import Derived.Great.BuildSlice
namespace Go.Proofs.YtjnfmfmglehmbaaGreat
open Go.ChangeShapes Go.WideShapes Go.ChangeAt Go.RowKit
set_option linter.unusedVariables false
theorem fillLg (x:Lg):Instr.fill (fun i=>some (i*10,10)) ((Array.range (1*10)).map ((Value.agg #[.int .i64 0,.int .i64 0,.int .i64 0,.int .i64 0,.int .i64 0,.int .i64 0,.int .i64 0,.int .i64 0,.int .i64 0,.int .i64 0]).cells[·% 10]!)) [(0,.agg x.cells.toArray)]=some x.cells.toArray:=by
 obtain ⟨t,n0,n1,n2,n3,n4,n5,n6,n7,n8⟩:=x
 first
 |kernel_rfl
 |(simp [Instr.fill,Lg.cells,Value.cells,Array.range];done)
 |(unfold Instr.fill;simp [Lg.cells,Value.cells];rfl)
theorem bdLg (x:Lg):Tryz.prog.built 96 [(0,.int .i64 x.term),(1,x.e.v)]=some x.cells.toArray:=by
 obtain ⟨t,n0,n1,n2,n3,n4,n5,n6,n7,n8⟩:=x
 first
 |kernel_rfl
 |rfl
theorem exLg {o:Oper} {a:Act} {w:World} (ho:o.op= .build 96 #[(0,.tmp 136),(1,.tmp 145)]) (x:Lg) (h0:a.eval (.tmp 136)= .int .i64 x.term) (h1:a.eval (.tmp 145)=x.e.v):(execOp a.eval o).run Tryz.prog w= .ok (.value (.agg x.cells.toArray)) w:=by
 unfold execOp
 have h:=run_build (P:=Tryz.prog) w 96 #[(0,.int .i64 x.term),(1,x.e.v)] x.cells.toArray (bdLg x)
 simp only [ho,List.map_toArray,List.map_cons,List.map_nil,h0,h1,Sem.run_bind,h,Result.andThen_ok,Sem.run_pure]
theorem bsLg {o:Oper} {a:Act} {w:World} {K:Act→World→Prop} {Q:Exit→Act→World→Prop} (ho:o.op= .buildSlice 34 1 #[(0,.tmp 146)]) (x:Lg) (hx:a.eval (.tmp 146)= .agg x.cells.toArray)
  (h:K (a.put o.dst (.slice (some ⟨w.heap.size,0,none⟩) 1 1)) (w.alloc (.cells x.cells.toArray TLg))):o.wp Tryz.prog a w K Q:=by
 obtain ⟨i0,hi0,hz0,hz1,hz2⟩:=info_parts fV
 refine wp_buildSlice 34 TLg 1 _ ho x.cells.toArray i0 _ Tryz.underlying34 hi0 hz0 (by rw [hz1];decide) (by rw [hz1];decide) ?_ h
 rw [hz1]
 have:(#[(0,Operand.tmp 146)].map fun (i,x)=>(i,a.eval x)).toList=[(0,.agg x.cells.toArray)]:=by simp [hx]
 rw [this]
 exact fillLg x
theorem wantedN {o:Oper} {ts:Nat→Option Bool} (h:o.guard=none):Region.wanted o ts=true:=by simp [Region.wanted,h]
theorem blkRow {W:World} {g:Nat} {t:TypeId} {cs:Array Value} (h:Blk W g t cs) (cs' :Array Value):Blk (W.setRow g cs') g t cs' :=setRow_heap W g cs cs' t (0,0) h
theorem frRow {F:Nat→Prop} {w W:World} {g:Nat} (h:Fr F w W) (hg:F g∨w.heap.size≤g) (cs:Array Value):Fr F w (W.setRow g cs):=
 ⟨h.os,h.tape,h.output,by rw [setRow_size];exact h.size,fun i hi hn=>(setRow_other W g i cs (by
  rintro rfl
  rcases hg with hg|hg
  ·exact hn hg
  ·omega)).trans (h.block i hi hn)⟩
set_option maxRecDepth 100000 in
set_option maxHeartbeats 16000000 in
theorem aan {w:World} {G H:Nat→Prop} {q:Nat} {r:Rs} {n:Nat} (h:bR w G q r n) (s:St9) (A:Option Addr) (c:Nat) (hE:Ent w H (.slice A s.m.es.length c) s.m.es) (hlen:s.m.es.length≤8):
  Calls Tryz.prog 51 #[.pointer (some ⟨q,0,none⟩),s.v (.slice A s.m.es.length c)] w (aoo w):=by
 have hM2:=hE.rd.2.2.1
 have hM:=hE.rd.2.2.2.1
 unfold maxLen at hM
 have hat:=fun i hi=>hE.at_ (i:=i) hi
 have hlo:=h.ok.lo
 have hhi:=h.ok.hi
 have arv:=h.ok.idn
 have h5:=h.ok.five
 have lK:=h.ok.log.few
 obtain ⟨j,Fj,Vv,X,Mm,bs,xs,ms,h1,h2,h3,h4,h5',h6,h7,h8⟩:=h
 obtain ⟨d,Al,cl,b1,b2,b3⟩:=h3.open_
 have hTA:=fun V (hf:Fr No w V) i=>pX (h3.ak hf) i
 have hk:∀V,Fr No w V→V.cell? ⟨q,0,none⟩=some (.pointer (some ⟨j,0,none⟩))∧V.cell? ⟨q,1,none⟩=some (.int .i64 r.id)∧V.cell? ⟨q,2,none⟩=some (.int .i64 r.n)∧V.cell? ⟨j,1,none⟩=some (.int .i64 r.js.term)∧V.cell? ⟨j,3,none⟩=some (.slice Al r.js.log.length cl):=fun V hf=>let g:=h1.fr hf (fun h=>h);let k:=b1.fr hf (fun h=>h);⟨g.cell 0,g.cell 1,g.cell 2,k.cell 1,k.cell 3⟩
 have hql:=h1.lt
 have hjl:=b1.lt
 generalize r.js.log.length=ll at*
 generalize r.js.term=tm at*
 have hn0:(0:Int)<(r.n:Int):=by omega
 have hn5:(r.n:Int)≤5:=by omega
 generalize (r.n:Int)=nn at*
 generalize (r.id:Int)=id at*
 obtain ⟨wh,a,b,kd0,mf0,anq,mt0,ix0,pv0,cm0,ok,es0⟩:=s
 simp only [St9.v] at*
 obtain ⟨len,ai5⟩:∃len,len=es0.length:=⟨_,rfl⟩
 rw [←ai5] at hlen hM2 ⊢
 have hw1:IntKind.i64.wrap (tm-1)=tm-1:=IntWalk.i64_in _ (by omega)
 have hw2:IntKind.i64.wrap (tm+1)=tm+1:=IntWalk.i64_in _ (by omega)
 have hw3:IntKind.i64.wrap ((ll:Int)+1)=(ll:Int)+1:=IntWalk.i64_in _ (by omega)
 have hw4:IntKind.i64.wrap ((ll:Int)+2)=(ll:Int)+2:=IntWalk.i64_in _ (by omega)
 obtain ⟨sv,hsv⟩:∃sv:Array Value,sv= #[.int .i64 wh,.int .i64 a,.int .i64 b,.int .i64 kd0,.int .i64 mf0,.int .i64 anq,.int .i64 mt0,.int .i64 ix0,.int .i64 pv0,.int .i64 cm0,.bool ok,.slice A len c]:=⟨_,rfl⟩
 obtain ⟨g1,hg1⟩:∃g1,g1=w.heap.size:=⟨_,rfl⟩
 obtain ⟨W0,hW0⟩:∃W0,W0=(w.alloc (.cells sv wK)).alloc (.cells ms0 TMs):=⟨_,rfl⟩
 have hs0:W0.heap.size=g1+2:=by rw [hW0,hg1];simp
 have hb1:Blk W0 g1 wK sv:=by rw [hW0,hg1];exact (Blk.new _ _ _).fr (aj _ _) fun h=>h
 have hb0:Blk W0 (g1+1) TMs ms0:=by rw [hW0,hg1];exact Blk.new' _ _ _ _ (by simp)
 have hf0:Fr No w W0:=by rw [hW0];exact (aj _ _).alloc _
 obtain ⟨W1,hW1⟩:∃W1,W1=W0.alloc (.cells (cZ kd0 mf0 anq mt0 ix0 pv0 cm0 ok (.slice A len c)) TMs):=⟨_,rfl⟩
 have hL:Lk w g1 sv ok (.slice A len c) W1:=by
  rw [hW1]
  exact ⟨kd0,mf0,anq,mt0,ix0,pv0,cm0,hb1.fr (aj _ _) fun h=>h,hb0.fr (aj _ _) fun h=>h,Blk.new' _ _ _ _ hs0.symm,hf0.alloc _,by rw [hg1];exact Nat.le_refl _⟩
 have e3:=hb1.cell 3
 have e4:=hb1.cell 4
 have e5:=hb1.cell 5
 have e6:=hb1.cell 6
 have e7:=hb1.cell 7
 have e8:=hb1.cell 8
 have e9:=hb1.cell 9
 have e10:=hb1.cell 10
 have e11:=hb1.cell 11
 rw [hsv] at e3 e4 e5 e6 e7 e8 e9 e10 e11
 obtain ⟨i0,hi0,hz0,hz1,hz2⟩:=info_parts fV
 rw [hsv] at hW0
 clear h1 h2 h3 h4 h5' h6 h7 h8 b1 b2 b3 hE hb1 hb0
 have HAT:=Lib.hid hat
 have HTA:=Lib.hid hTA
 have HK:=Lib.hid hk
 have ao6:=Lib.hid ai5
 have HSV:=Lib.hid hsv
 have HW0:=Lib.hid hW0
 have HW1:=Lib.hid hW1
 have HL:=Lib.hid hL
 have HF0:=Lib.hid hf0
 have HG1:=Lib.hid hg1
 have HS0:=Lib.hid hs0
 clear hat hTA hk ai5 hsv hW0 hW1 hL hf0 hg1 hs0
 go_in
 go_upto_region 1 with fail
 rw [←HG1.out,←HW0.out]
 go_upto_region 2 with fail
 try rw [HS0.out]
 rw [←HW1.out]
 have LE:=Lib.hid (Lq.of HL.out)
 generalize g1+1=ga at LE ⊢
 generalize g1+2=gb at LE ⊢
 clear HL e3 e4 e5 e6 e7 e8 e9 e10 e11 HW0 HW1 HS0
 clear HG1
 obtain ⟨c0,c1,c2,d1,d3⟩:=HK.out _ LE.out.frq
 generalize W1=W2 at*
 go_upto_region 3 with fail
 go_cut [] from 19 to 27 (fun wx=>Lq w g1 ga gb sv ok (.slice A len c) wx)
 case first=>
  as_aux_lemma=>
   obtain ⟨kd,mf,mto,mt,ix,pv,cm,k0,k1,k2,k3,k4,k5,k6,k7,k8,kb⟩:=LE.out.cells
   have q0:=kb.frozen 0
   have q1:=kb.frozen 1
   have q2:=kb.frozen 2
   have q3:=kb.frozen 3
   have q4:=kb.frozen 4
   have q5:=kb.frozen 5
   have q6:=kb.frozen 6
   clear kb
   go_wp2_with fail
   go_region_with (first|(go_at_call 47;refine (wF _ _ _ _ (by omega) (by omega) (by omega)).mono ?_;rintro e w' ⟨x,rfl,-,-,rfl⟩))
   all_goals
    (try go_wp2_with fail)
   all_goals
    go_meet
    (repeat (with_reducible first|exact LE.out|refine Lq.set0 ?_ _|refine Lq.set1 ?_ _|refine Lq.set2 ?_ _|refine Lq.aff ?_ _|refine Lq.zS ?_ _|refine Lq.aa8 ?_ _|refine Lq.abv ?_ _|refine Lq.drew ?_|refine Lq.drewN ?_ _));done
 replace LE:=Lib.hid hcut
 clear hcut
 clear c0 c1 c2 d1 d3
 obtain ⟨c0,c1,c2,d1,d3⟩:=HK.out _ LE.out.frq
 go_upto_region 4 with fail
 go_cut [] from 28 to 35 (fun wx=>Lq w g1 ga gb sv ok (.slice A len c) wx)
 case first=>
  as_aux_lemma=>
   obtain ⟨kd,mf,mto,mt,ix,pv,cm,k0,k1,k2,k3,k4,k5,k6,k7,k8,kb⟩:=LE.out.cells
   have q0:=kb.frozen 0
   have q1:=kb.frozen 1
   have q2:=kb.frozen 2
   have q3:=kb.frozen 3
   have q4:=kb.frozen 4
   have q5:=kb.frozen 5
   have q6:=kb.frozen 6
   clear kb
   go_wp2_with fail
   go_still_tail 8,(by kernel_rfl)
   still_call (anr _ _ _ (by omega) (by omega))
   repeat still_step
   try refine wpStill_nil ?_
   all_goals
    (try go_wp2_with fail)
   all_goals
    go_meet
    (repeat (with_reducible first|exact LE.out|refine Lq.set0 ?_ _|refine Lq.set1 ?_ _|refine Lq.set2 ?_ _|refine Lq.aff ?_ _|refine Lq.zS ?_ _|refine Lq.aa8 ?_ _|refine Lq.abv ?_ _|refine Lq.drew ?_|refine Lq.drewN ?_ _));done
 replace LE:=Lib.hid hcut
 clear hcut
 clear c0 c1 c2 d1 d3
 obtain ⟨c0,c1,c2,d1,d3⟩:=HK.out _ LE.out.frq
 go_upto_region 5 with fail
 go_cut [] from 36 to 56 (fun wx=>Lq w g1 ga gb sv ok (.slice A len c) wx)
 case first=>
  as_aux_lemma=>
   obtain ⟨kd,mf,mto,mt,ix,pv,cm,k0,k1,k2,k3,k4,k5,k6,k7,k8,kb⟩:=LE.out.cells
   have q0:=kb.frozen 0
   have q1:=kb.frozen 1
   have q2:=kb.frozen 2
   have q3:=kb.frozen 3
   have q4:=kb.frozen 4
   have q5:=kb.frozen 5
   have q6:=kb.frozen 6
   clear kb
   go_wp2_with fail
   go_still_tail 21,(by kernel_rfl)
   still_call (amf _ _ _ _ (by omega) (by omega) (by omega))
   repeat still_step
   try refine wpStill_nil ?_
   all_goals
    (try go_wp2_with fail)
   all_goals
    go_meet
    (repeat (with_reducible first|exact LE.out|refine Lq.set0 ?_ _|refine Lq.set1 ?_ _|refine Lq.set2 ?_ _|refine Lq.aff ?_ _|refine Lq.zS ?_ _|refine Lq.aa8 ?_ _|refine Lq.abv ?_ _|refine Lq.drew ?_|refine Lq.drewN ?_ _));done
 replace LE:=Lib.hid hcut
 clear hcut
 clear c0 c1 c2 d1 d3
 obtain ⟨c0,c1,c2,d1,d3⟩:=HK.out _ LE.out.frq
 go_upto_region 6 with fail
 go_cut [] from 57 to 62 (fun wx=>Lq w g1 ga gb sv ok (.slice A len c) wx)
 case first=>
  as_aux_lemma=>
   obtain ⟨kd,mf,mto,mt,ix,pv,cm,k0,k1,k2,k3,k4,k5,k6,k7,k8,kb⟩:=LE.out.cells
   have q0:=kb.frozen 0
   have q1:=kb.frozen 1
   have q2:=kb.frozen 2
   have q3:=kb.frozen 3
   have q4:=kb.frozen 4
   have q5:=kb.frozen 5
   have q6:=kb.frozen 6
   clear kb
   go_wp2_with (first|(go_at_call 47;refine (wF _ _ _ _ (by omega) (by omega) (by omega)).mono ?_;rintro e w' ⟨x,rfl,-,-,rfl⟩))
   all_goals
    (try go_wp2_with fail)
   all_goals
    go_meet
    (repeat (with_reducible first|exact LE.out|refine Lq.set0 ?_ _|refine Lq.set1 ?_ _|refine Lq.set2 ?_ _|refine Lq.aff ?_ _|refine Lq.zS ?_ _|refine Lq.aa8 ?_ _|refine Lq.abv ?_ _|refine Lq.drew ?_|refine Lq.drewN ?_ _));done
 replace LE:=Lib.hid hcut
 clear hcut
 clear c0 c1 c2 d1 d3
 obtain ⟨c0,c1,c2,d1,d3⟩:=HK.out _ LE.out.frq
 go_upto_region 7 with fail
 go_cut [] from 63 to 76 (fun wx=>Lq w g1 ga gb sv ok (.slice A len c) wx)
 case first=>
  as_aux_lemma=>
   obtain ⟨kd,mf,mto,mt,ix,pv,cm,k0,k1,k2,k3,k4,k5,k6,k7,k8,kb⟩:=LE.out.cells
   have q0:=kb.frozen 0
   have q1:=kb.frozen 1
   have q2:=kb.frozen 2
   have q3:=kb.frozen 3
   have q4:=kb.frozen 4
   have q5:=kb.frozen 5
   have q6:=kb.frozen 6
   clear kb
   go_wp2_with fail
   go_still_tail 14,(by kernel_rfl)
   still_call (amf _ _ _ _ (by omega) (by omega) (by omega))
   repeat still_step
   try refine wpStill_nil ?_
   all_goals
    (try go_wp2_with fail)
   all_goals
    go_meet
    (repeat (with_reducible first|exact LE.out|refine Lq.set0 ?_ _|refine Lq.set1 ?_ _|refine Lq.set2 ?_ _|refine Lq.aff ?_ _|refine Lq.zS ?_ _|refine Lq.aa8 ?_ _|refine Lq.abv ?_ _|refine Lq.drew ?_|refine Lq.drewN ?_ _));done
 replace LE:=Lib.hid hcut
 clear hcut
 clear c0 c1 c2 d1 d3
 obtain ⟨c0,c1,c2,d1,d3⟩:=HK.out _ LE.out.frq
 go_upto_region 8 with fail
 go_cut [85] from 77 to 85 (fun x wx=>(∃B:Bool,x= .bool B)∧Lq w g1 ga gb sv ok (.slice A len c) wx)
 case first=>
  as_aux_lemma=>
   obtain ⟨kd,mf,mto,mt,ix,pv,cm,k0,k1,k2,k3,k4,k5,k6,k7,k8,kb⟩:=LE.out.cells
   clear kb
   have e2:=LE.out.svc 2
   rw [HSV.out] at e2
   by_cases h3:kd=3
   ·have t3:(kd == 3)=true:=by simpa using h3
    clear h3
    go_wp2_with fail
    go_meet
    exact ⟨⟨_,rfl⟩,LE.out⟩
   ·have t3:(kd == 3)=false:=by simpa using h3
    clear h3
    go_wp2_with fail
    go_meet
    exact ⟨⟨_,rfl⟩,LE.out⟩
 obtain ⟨⟨B,rfl⟩,hcut⟩:=hcut
 replace LE:=Lib.hid hcut
 clear hcut c0 c1 c2 d1 d3
 obtain ⟨c0,c1,c2,d1,d3⟩:=HK.out _ LE.out.frq
 go_upto_if 85 with fail
 go_cut [85] from 77 to 97 (fun x wx=>Lq w g1 ga gb sv ok (.slice A len c) wx)
 case first=>
  as_aux_lemma=>
   obtain ⟨kd,mf,mto,mt,ix,pv,cm,k0,k1,k2,k3,k4,k5,k6,k7,k8,kb⟩:=LE.out.cells
   have q5:=kb.frozen 5
   have KB:=Lib.hid kb
   clear kb
   cases B
   ·go_wp2_with fail
    go_meet
    exact LE.out
   ·go_wp2_with fail
    go_region_with (first|(go_at_call 110;refine (HTA.out _ (LE.out.frq.ah (by repeat (first|assumption|exact Fr.refl _ _|refine Fr.alloc ?_ _|refine Fr.drew ?_|refine Fr.drewN ?_ _))) _).mono ?_;rintro e w6 ⟨rfl,f6⟩;replace LE:=Lib.hid (LE.out.ak (Fr.ah (by repeat (first|assumption|exact Fr.refl _ _|refine Fr.alloc ?_ _|refine Fr.drew ?_|refine Fr.drewN ?_ _)) f6));have kb6:=KB.out.fr (show Fr No _ w6 from Fr.ah (by repeat (first|assumption|exact Fr.refl _ _|refine Fr.alloc ?_ _|refine Fr.drew ?_|refine Fr.drewN ?_ _)) f6) (fun h=>h);have k56:=kb6.cell 5;have q56:=kb6.frozen 5;have k36:=kb6.cell 3;clear f6 kb6))
    all_goals
     (try go_wp2_with fail)
    all_goals
     go_meet
     (repeat (with_reducible first|exact LE.out|refine Lq.set0 ?_ _|refine Lq.set1 ?_ _|refine Lq.set2 ?_ _|refine Lq.aff ?_ _|refine Lq.zS ?_ _|refine Lq.aa8 ?_ _|refine Lq.abv ?_ _|refine Lq.drew ?_|refine Lq.drewN ?_ _));done
 replace LE:=Lib.hid hcut
 clear hcut
 clear c0 c1 c2 d1 d3
 obtain ⟨c0,c1,c2,d1,d3⟩:=HK.out _ LE.out.frq
 go_upto_region 10 with fail
 go_cut [] from 98 to 103 (fun wx=>Lq w g1 ga gb sv ok (.slice A len c) wx)
 case first=>
  as_aux_lemma=>
   obtain ⟨kd,mf,mto,mt,ix,pv,cm,k0,k1,k2,k3,k4,k5,k6,k7,k8,kb⟩:=LE.out.cells
   have q0:=kb.frozen 0
   have q1:=kb.frozen 1
   have q2:=kb.frozen 2
   have q3:=kb.frozen 3
   have q4:=kb.frozen 4
   have q5:=kb.frozen 5
   have q6:=kb.frozen 6
   clear kb
   go_wp2_with (first|(go_at_call 47;refine (wF _ _ _ _ (by omega) (by omega) (by omega)).mono ?_;rintro e w' ⟨x,rfl,-,-,rfl⟩))
   all_goals
    (try go_wp2_with fail)
   all_goals
    go_meet
    (repeat (with_reducible first|exact LE.out|refine Lq.set0 ?_ _|refine Lq.set1 ?_ _|refine Lq.set2 ?_ _|refine Lq.aff ?_ _|refine Lq.zS ?_ _|refine Lq.aa8 ?_ _|refine Lq.abv ?_ _|refine Lq.drew ?_|refine Lq.drewN ?_ _));done
 replace LE:=Lib.hid hcut
 clear hcut
 clear c0 c1 c2 d1 d3
 obtain ⟨c0,c1,c2,d1,d3⟩:=HK.out _ LE.out.frq
 go_upto_region 11 with fail
 go_cut [] from 104 to 104 (fun wx=>Lq w g1 ga gb sv ok (.slice none 0 0) wx)
 case first=>
  as_aux_lemma=>
   obtain ⟨kd,mf,mto,mt,ix,pv,cm,k0,k1,k2,k3,k4,k5,k6,k7,k8,kb⟩:=LE.out.cells
   have q8:=kb.frozen 8
   clear kb
   go_wp2_with fail
   go_meet
   exact Lq.aj7 LE.out _
 replace LE:=Lib.hid hcut
 clear hcut c0 c1 c2 d1 d3
 go_upto_region 12 with fail
 go_cut [7] from 105 to 107 (fun x wx=>(∃T:Int,x= .int .i64 T)∧Lq w g1 ga gb sv ok (.slice none 0 0) wx)
 case first=>
  as_aux_lemma=>
   obtain ⟨kd,mf,mto,mt,ix,pv,cm,k0,k1,k2,k3,k4,k5,k6,k7,k8,kb⟩:=LE.out.cells
   clear kb
   go_wp2_with fail
   all_goals
    go_meet
    exact ⟨⟨_,rfl⟩,LE.out⟩
 obtain ⟨⟨T,rfl⟩,hcut⟩:=hcut
 replace LE:=Lib.hid hcut
 clear hcut
 go_wp2_with fail
 go_loopw [7,8] (fun tv i wr=>∃(k:Nat) (T:Int),k≤len∧i= .int .i64 k∧tv= .int .i64 T∧LqL w g1 ga gb sv ok k wr) (fun _ i _=>len-(intOf i).toNat)
 case atStart=>exact ⟨0,T,Nat.zero_le _,rfl,rfl,[],none,0,LE.out,bG.nil _ _ _ _,rfl,fun x hx=>by cases hx⟩
 case round=>
  as_aux_lemma=>
   obtain ⟨k,T,hk,rfl,rfl,hL⟩:=hrel
   obtain ⟨es,Ae,ce,hL,ho,hes,hok⟩:=hL
   replace LE:=Lib.hid hL
   clear hL
   obtain ⟨kd,mf,mto,mt,ix,pv,cm,k0,k1,k2,k3,k4,k5,k6,k7,k8,kb⟩:=LE.out.cells
   have q8:=kb.frozen 8
   have e11:wr.cell? ⟨g1,11,none⟩=some (.slice A len c):=by rw [LE.out.svc 11,HSV.out];rfl
   by_cases hlt:k<len∧kd=3
   ·obtain ⟨hlt,h3⟩:=hlt
    have b1:decide (k<len)=true:=decide_eq_true hlt
    have b2:decide ((k:Int)<(len:Int))=true:=decide_eq_true (by (go_light;omega))
    have b3:(kd == 3)=true:=by simpa using h3
    have hlt2:(k:Int)<(len:Int):=by (go_light;omega)
    obtain ⟨bb,off,x,rfl,hx,hxc⟩:=HAT.out k (by rw [←ao6.out];exact hlt)
    have hS:∀V,Fr No w V→V.cell? ⟨bb,off+k*10,none⟩=some (.int .i64 x.term)∧V.cell? ⟨bb,off+k*10+9,none⟩=some (.int .i64 x.e.n):=fun V hV=>let ⟨z0,_,_,_,_,_,_,_,_,z9⟩:=hxc V hV;⟨z0,z9⟩
    have hno:=fun W=>mR x.e.n W
    have hnk:=kR (x.e.n % 1000) (Int.emod_nonneg _ (by decide)) (Int.emod_lt_of_pos _ (by decide))
    obtain ⟨ne,hne⟩:∃ne,ne=bE (x.e.n % 1000):=⟨_,rfl⟩
    rw [←hne] at hno hnk
    generalize x.term=xt at*
    generalize x.e.n=xn at*
    clear hx hxc h3 hne
    have hrow:=LE.out.frq
    have hSk:∀V,Fr No wr V→V.cell? ⟨gb,3,none⟩=some (.int .i64 mt)∧V.cell? ⟨g1,11,none⟩=some (.slice (some ⟨bb,off,none⟩) len c)∧V.cell? ⟨bb,off+k*10,none⟩=some (.int .i64 xt):=fun V hV=>⟨(kb.fr hV (fun h=>h)).cell 3,by rw [(LE.out.ak hV).svc 11,HSV.out];rfl,(hS V (hrow.ah hV)).1⟩
    have HO:=Lib.hid ho
    have HES:=Lib.hid hes
    have HOK:=Lib.hid hok
    have HS:=Lib.hid hS
    have HNO:=Lib.hid hno
    have HNK:=Lib.hid hnk
    have HSK:=Lib.hid hSk
    clear ho hes hok hS hno hnk hSk
    clear kb
    have hgl:=LE.out.big
    go_upto_region 16 with fail
    have hm1:=Int.emod_nonneg xt (b:=2) (by decide)
    have hm2:=Int.emod_lt_of_pos xt (b:=2) (by decide)
    go_cut [7] from 108 to 149 (fun x wx=>(∃T:Int,x= .int .i64 T)∧Lq w g1 ga gb sv ok (.slice Ae es.length ce) wx∧Fr No wr wx)
    case first=>
     go_region_held3 (fun V=>V.cell? ⟨gb,3,none⟩=some (.int .i64 mt)∧V.cell? ⟨g1,11,none⟩=some (.slice (some ⟨bb,off,none⟩) len c)∧V.cell? ⟨bb,off+k*10,none⟩=some (.int .i64 xt)) (exact HSK.out _ (by repeat (first|assumption|exact Fr.refl _ _|refine Fr.alloc ?_ _|refine Fr.drew ?_|refine Fr.drewN ?_ _))) (first|(go_at_call 7;refine (dO _ _ _ (by (go_light;omega)) (by (go_light;omega))).mono ?_;rintro e w' ⟨rfl,rfl⟩))
     all_goals
      (try go_wp2_with fail)
     all_goals
      go_meet
      exact ⟨⟨_,rfl⟩,LE.out.ak (by repeat (first|assumption|exact Fr.refl _ _|refine Fr.alloc ?_ _|refine Fr.drew ?_|refine Fr.drewN ?_ _)),(by repeat (first|assumption|exact Fr.refl _ _|refine Fr.alloc ?_ _|refine Fr.drew ?_|refine Fr.drewN ?_ _))⟩
    obtain ⟨⟨T',rfl⟩,l2,f2⟩:=hcut
    have o2:=HO.out.ak f2
    clear hrow
    have hrow:=l2.frq
    obtain ⟨s0,s9⟩:=HS.out _ hrow
    clear k0 k1 k2 k3 k4 k5 k6 k7 k8 q8 e11
    replace LE:=Lib.hid l2
    obtain ⟨kd2,mf,mto,mt,ix,pv,cm,k0,k1,k2,k3,k4,k5,k6,k7,k8,kb⟩:=LE.out.cells
    have q8:=kb.frozen 8
    have e11:wc.cell? ⟨g1,11,none⟩=some (.slice (some ⟨bb,off,none⟩) len c):=by rw [LE.out.svc 11,HSV.out];rfl
    clear l2 f2 kb k0 k1 k2 k3 k4 k5 k6 k7
    have hB2:=LE.out.big
    have hB3:=hB2.2
    have how:∀W,Fr No wc W→bG W (fun b=>g1+3≤b) TLg 10 (.slice Ae es.length ce) es.length (dD es):=fun W hW=>o2.ak hW
    have hsz:g1+3≤wc.heap.size:=by (go_light;omega)
    obtain ⟨n0,n1,n2,n3,n4,n5,n6,n7,n8⟩:=ne
    have hno:=HNO.out
    unfold En.v at hno
    simp only at hno
    clear HNO
    have atq:es.length≤8:=by rw [HES.out];(go_light;omega)
    have HNO:=Lib.hid hno
    have HOW:=Lib.hid how
    have HSZ:=Lib.hid hsz
    clear hno how hsz
    go_upto_region 17 with fail
    have hkp:∀v V,Lq w g1 ga gb sv ok v V→V.cell? ⟨g1,11,none⟩=some (.slice (some ⟨bb,off,none⟩) len c)∧V.cell? ⟨bb,off+k*10+9,none⟩=some (.int .i64 xn):=fun v V h=>⟨by rw [h.svc 11,HSV.out];rfl,(HS.out V h.frq).2⟩
    have HKP:=Lib.hid hkp
    clear hkp
    refine wp_region_held_drew (S:=(fun V=>V.cell? ⟨g1,11,none⟩=some (.slice (some ⟨bb,off,none⟩) len c)∧V.cell? ⟨bb,off+k*10+9,none⟩=some (.int .i64 xn))) (by kernel_rfl) (HKP.out _ _ LE.out.drew) (fun hHeld=> ?_)
    refine wpAnyH_take (i:=0) (v:= ?_) rfl (by kernel_rfl) (by kernel_rfl) (by kernel_rfl) (fun _ _ _ h=>h) (Or.inl ⟨by rfl,?_⟩) (by assumption) ?_
    rotate_left
    ·(intro w hSw;(try dsimp only at hSw);go_simp)<;>with_reducible rfl
    simp only [Act.put,List.setIfInBounds_toArray,List.set_cons_zero,List.set_cons_succ,List.getElem_toArray,List.getElem_cons_zero]
    refine wpAnyH_take (i:=2) (v:= ?_) rfl (by kernel_rfl) (by kernel_rfl) (by kernel_rfl) (fun _ _ _ h=>h) (Or.inl ⟨by rfl,?_⟩) (by assumption) ?_
    rotate_left
    ·(intro w hSw;(try dsimp only at hSw);go_simp)<;>with_reducible rfl
    simp only [Act.put,List.setIfInBounds_toArray,List.set_cons_zero,List.set_cons_succ,List.getElem_toArray,List.getElem_cons_zero,List.getElem_cons_succ]
    refine wpAnyH_take (i:=3) (v:= ?_) rfl (by kernel_rfl) (by kernel_rfl) (by kernel_rfl) (fun _ _ _ h=>h) (Or.inl ⟨by rfl,?_⟩) (by assumption) ?_
    rotate_left
    ·(intro w hSw;(try dsimp only at hSw);go_simp)<;>with_reducible rfl
    simp only [Act.put,List.setIfInBounds_toArray,List.set_cons_zero,List.set_cons_succ,List.getElem_toArray,List.getElem_cons_zero,List.getElem_cons_succ]
    refine wpAnyH_take (i:=4) (v:= ?_) rfl (by kernel_rfl) (by kernel_rfl) (by kernel_rfl) (fun _ _ _ h=>h) (Or.inl ⟨by rfl,?_⟩) (by assumption) ?_
    rotate_left
    ·(intro w hSw;(try dsimp only at hSw);go_simp)<;>with_reducible rfl
    simp only [Act.put,List.setIfInBounds_toArray,List.set_cons_zero,List.set_cons_succ,List.getElem_toArray,List.getElem_cons_zero,List.getElem_cons_succ]
    refine wpAnyH_take (i:=5) (v:= ?_) rfl (by kernel_rfl) (by kernel_rfl) (by kernel_rfl) (fun _ _ _ h=>h) (Or.inl ⟨by rfl,?_⟩) (by assumption) ?_
    rotate_left
    ·(intro w hSw;(try dsimp only at hSw);go_simp)<;>with_reducible rfl
    simp only [Act.put,List.setIfInBounds_toArray,List.set_cons_zero,List.set_cons_succ,List.getElem_toArray,List.getElem_cons_zero,List.getElem_cons_succ]
    refine wpAnyH_take (i:=6) (v:= ?_) rfl (by kernel_rfl) (by kernel_rfl) (by kernel_rfl) (fun _ _ _ h=>h) (Or.inl ⟨by rfl,?_⟩) (by assumption) ?_
    rotate_left
    ·(intro w hSw;(try dsimp only at hSw);go_simp)<;>with_reducible rfl
    simp only [Act.put,List.setIfInBounds_toArray,List.set_cons_zero,List.set_cons_succ,List.getElem_toArray,List.getElem_cons_zero,List.getElem_cons_succ]
    refine wpAnyH_take (i:=7) (v:= ?_) rfl (by kernel_rfl) (by kernel_rfl) (by kernel_rfl) (fun _ _ _ h=>h) (Or.inl ⟨by rfl,?_⟩) (by assumption) ?_
    rotate_left
    ·(intro w hSw;(try dsimp only at hSw);go_simp)<;>with_reducible rfl
    simp only [Act.put,List.setIfInBounds_toArray,List.set_cons_zero,List.set_cons_succ,List.getElem_toArray,List.getElem_cons_zero,List.getElem_cons_succ]
    refine wpAnyH_take (i:=8) (v:= ?_) rfl (by kernel_rfl) (by kernel_rfl) (by kernel_rfl) (fun _ _ _ h=>h) (Or.inl ⟨by rfl,?_⟩) (by assumption) ?_
    rotate_left
    ·(intro w hSw;(try dsimp only at hSw);go_simp)<;>with_reducible rfl
    simp only [Act.put,List.setIfInBounds_toArray,List.set_cons_zero,List.set_cons_succ,List.getElem_toArray,List.getElem_cons_zero,List.getElem_cons_succ]
    refine wpAnyH_take (i:=9) (v:= ?_) rfl (by kernel_rfl) (by kernel_rfl) (by kernel_rfl) (fun _ _ _ h=>h) (Or.inl ⟨by rfl,?_⟩) (by assumption) ?_
    rotate_left
    ·(intro w hSw;(try dsimp only at hSw);go_simp)<;>with_reducible rfl
    simp only [Act.put,List.setIfInBounds_toArray,List.set_cons_zero,List.set_cons_succ,List.getElem_toArray,List.getElem_cons_zero,List.getElem_cons_succ]
    refine wpAnyH_take (i:=10) (v:= ?_) rfl (by kernel_rfl) (by kernel_rfl) (by kernel_rfl) (fun _ _ _ h=>h) (Or.inl ⟨by rfl,?_⟩) (by assumption) ?_
    rotate_left
    ·(intro w hSw;(try dsimp only at hSw);go_simp)<;>with_reducible rfl
    simp only [Act.put,List.setIfInBounds_toArray,List.set_cons_zero,List.set_cons_succ,List.getElem_toArray,List.getElem_cons_zero,List.getElem_cons_succ]
    refine wpAnyH_ready (rs:=[1,11]) (by kernel_rfl) (by simp) (AllReadyH.cons rfl (fun K hK=> ?_) (AllReadyH.cons rfl (fun K hK=> ?_) AllReadyH.nil))
    ·as_aux_lemma=>
      rw [if_pos (wantedN rfl)]
      as_aux_lemma=>
       go_step
       clear hHeld
       refine hK.out _ _ (HKP.out _ _ LE.out.drew) (fun hHeld=> ?_)
       as_aux_lemma=>
        clear hK K
        try simp only [Act.put,List.setIfInBounds_toArray,List.set_cons_zero,List.set_cons_succ,List.getElem_toArray,List.getElem_cons_zero,List.getElem_cons_succ]
        as_aux_lemma=>
         refine wpAnyH_ready (rs:=[11]) (by kernel_rfl) (by simp) (AllReadyH.cons rfl (fun K hK=> ?_) AllReadyH.nil)
         as_aux_lemma=>
          rw [if_pos (wantedN rfl)]
          as_aux_lemma=>
           go_wp2_with fail
           refine (HNO.out _).mono ?_
           rintro e w5 ⟨rfl,f5⟩
           have Q5:Fr No wc w5:=Fr.ah (by repeat (first|assumption|exact Fr.refl _ _|refine Fr.alloc ?_ _|refine Fr.drew ?_|refine Fr.drewN ?_ _)) f5
           replace LE:=Lib.hid (LE.out.ak Q5)
           obtain ⟨_,_,_,_,_,_,_,_,_,_,_,_,_,_,_,k85,-⟩:=LE.out.cells
           have hB5:=LE.out.big.2
           clear f5
           go_wp2_with fail
           clear hHeld
           refine hK.out _ _ (HKP.out _ _ LE.out) (fun hHeld=> ?_)
           as_aux_lemma=>
            clear hK K
            try simp only [Act.put,List.setIfInBounds_toArray,List.set_cons_zero,List.set_cons_succ,List.getElem_toArray,List.getElem_cons_zero,List.getElem_cons_succ]
            as_aux_lemma=>
             refine wpAnyH_take (i:=12) (v:= .agg (Lg.cells ⟨T',⟨n0,n1,n2,n3,n4,n5,n6,n7,n8⟩⟩).toArray) rfl (by kernel_rfl) (by kernel_rfl) (by kernel_rfl) (fun _ _ _ h=>h) (Or.inl ⟨by rfl,fun w hSw=>exLg rfl ⟨T',⟨n0,n1,n2,n3,n4,n5,n6,n7,n8⟩⟩ rfl rfl⟩) (by assumption) ?_
             simp only [Act.put,List.setIfInBounds_toArray,List.set_cons_zero,List.set_cons_succ,List.getElem_toArray,List.getElem_cons_zero,List.getElem_cons_succ]
             as_aux_lemma=>
              refine wpAnyH_ready (rs:=[13]) (by kernel_rfl) (by simp) (AllReadyH.cons rfl (fun K hK=> ?_) AllReadyH.nil)
              as_aux_lemma=>
               rw [if_pos (wantedN rfl)]
               as_aux_lemma=>
                refine bsLg rfl ⟨T',⟨n0,n1,n2,n3,n4,n5,n6,n7,n8⟩⟩ rfl ?_
                clear hHeld
                refine hK.out _ _ (HKP.out _ _ (LE.out.ak (aj _ _))) (fun hHeld=> ?_)
                as_aux_lemma=>
                 clear hK K
                 try simp only [Act.put,List.setIfInBounds_toArray,List.set_cons_zero,List.set_cons_succ,List.getElem_toArray,List.getElem_cons_zero,List.getElem_cons_succ]
                 as_aux_lemma=>
                  refine wpAnyH_ready (rs:=[14]) (by kernel_rfl) (by simp) (AllReadyH.cons rfl (fun K hK=> ?_) AllReadyH.nil)
                  refine bf _ rfl (.tmp 135) (.tmp 147) _ rfl 0 TLg i0 _ 10 80 Tryz.underlying34 hi0 hz0 hz1 hz2 rfl (by decide) (.slice Ae es.length ce) es.length (dD es) (by rfl) (HOW.out _ (by repeat (first|assumption|exact Fr.refl _ _|refine Fr.alloc ?_ _|refine Fr.drew ?_|refine Fr.drewN ?_ _))).1 (w5.heap.size+1) (some ⟨w5.heap.size,0,none⟩) 1 1 (Lg.cells ⟨T',⟨n0,n1,n2,n3,n4,n5,n6,n7,n8⟩⟩) (by rfl) (fun h=>by cases h) (Rd.new w5 _ TLg rfl) rfl (by simp [Lg.cells,Value.oneCell']) (by unfold maxLen;(go_light;omega)) (by (go_light;omega)) (Nat.zero_le _) ?_
                  as_aux_lemma=>
                   intro v9 w9 happ
                   obtain ⟨A9,c9,rfl,o9,f9⟩:=bG.pushB (HOW.out _ (by repeat (first|assumption|exact Fr.refl _ _|refine Fr.alloc ?_ _|refine Fr.drew ?_|refine Fr.drewN ?_ _))) (by have:=HSZ.out;have:=Q5.size;simp;(go_light;omega)) happ
                   replace LE:=Lib.hid ((LE.out.ak (aj _ _)).frG f9 ⟨by (go_light;omega),by (go_light;omega),by (go_light;omega)⟩ (fun i hi=>by have:=hB2.1;have hi:g1+3≤i:=hi;(go_light;omega)))
                   obtain ⟨_,_,_,_,_,_,_,_,_,_,_,_,_,_,_,k89,kb9⟩:=LE.out.cells
                   have q89:=kb9.frozen 8
                   have O9:=Lib.hid o9
                   clear kb9 o9 f9 happ
                   clear hHeld
                   refine hK.out _ _ (HKP.out _ _ LE.out) (fun hHeld=> ?_)
                   as_aux_lemma=>
                    clear hK K
                    try simp only [Act.put,List.setIfInBounds_toArray,List.set_cons_zero,List.set_cons_succ,List.getElem_toArray,List.getElem_cons_zero,List.getElem_cons_succ]
                    as_aux_lemma=>
                     refine wpAnyH_take (i:=15) (v:= ?_) rfl (by kernel_rfl) (by kernel_rfl) (by kernel_rfl) (fun _ _ _ h=>h) (Or.inl ⟨by rfl,?_⟩) (by assumption) ?_
                     rotate_left
                     ·(intro w hSw;(try dsimp only at hSw);go_simp)<;>with_reducible rfl
                     simp only [Act.put,List.setIfInBounds_toArray,List.set_cons_zero,List.set_cons_succ,List.getElem_toArray,List.getElem_cons_zero,List.getElem_cons_succ]
                     as_aux_lemma=>
                      refine wpAnyH_ready (rs:=[16]) (by kernel_rfl) (by simp) (AllReadyH.cons rfl (fun K hK=> ?_) AllReadyH.nil)
                      rw [if_pos (wantedN rfl)]
                      as_aux_lemma=>
                       go_step
                       clear hHeld
                       refine hK.out _ _ (HKP.out _ _ (Lq.aj7 LE.out _)) (fun hHeld=> ?_)
                       as_aux_lemma=>
                        clear hK K
                        try simp only [Act.put,List.setIfInBounds_toArray,List.set_cons_zero,List.set_cons_succ,List.getElem_toArray,List.getElem_cons_zero,List.getElem_cons_succ]
                        as_aux_lemma=>
                         refine wpAnyH_done (by kernel_rfl) ?_ _
                         as_aux_lemma=>
                          go_wp2_with fail
                          go_roundw
                          case rel=>
                           refine ⟨k+1,T',?_,?_,?_,?_⟩
                           ·as_aux_lemma=>(go_light;omega)
                           ·as_aux_lemma=>go_num
                           ·as_aux_lemma=>rfl
                           ·as_aux_lemma=>exact LqL.push LE.out O9.out HES.out HOK.out HNK.out
                          case measure=>
                           ·as_aux_lemma=>(simp [intOf];(go_light;omega))
    ·as_aux_lemma=>
      rw [if_pos (wantedN rfl)]
      as_aux_lemma=>
       go_wp2_with fail
       refine (HNO.out _).mono ?_
       rintro e w5 ⟨rfl,f5⟩
       have Q5:Fr No wc w5:=Fr.ah (by repeat (first|assumption|exact Fr.refl _ _|refine Fr.alloc ?_ _|refine Fr.drew ?_|refine Fr.drewN ?_ _)) f5
       replace LE:=Lib.hid (LE.out.ak Q5)
       obtain ⟨_,_,_,_,_,_,_,_,_,_,_,_,_,_,_,k85,-⟩:=LE.out.cells
       have hB5:=LE.out.big.2
       clear f5
       go_wp2_with fail
       clear hHeld
       refine hK.out _ _ (HKP.out _ _ LE.out) (fun hHeld=> ?_)
       as_aux_lemma=>
        clear hK K
        try simp only [Act.put,List.setIfInBounds_toArray,List.set_cons_zero,List.set_cons_succ,List.getElem_toArray,List.getElem_cons_zero,List.getElem_cons_succ]
        as_aux_lemma=>
         refine wpAnyH_take (i:=12) (v:= .agg (Lg.cells ⟨T',⟨n0,n1,n2,n3,n4,n5,n6,n7,n8⟩⟩).toArray) rfl (by kernel_rfl) (by kernel_rfl) (by kernel_rfl) (fun _ _ _ h=>h) (Or.inl ⟨by rfl,fun w hSw=>exLg rfl ⟨T',⟨n0,n1,n2,n3,n4,n5,n6,n7,n8⟩⟩ rfl rfl⟩) (by assumption) ?_
         simp only [Act.put,List.setIfInBounds_toArray,List.set_cons_zero,List.set_cons_succ,List.getElem_toArray,List.getElem_cons_zero,List.getElem_cons_succ]
         as_aux_lemma=>
          refine wpAnyH_ready (rs:=[1,13]) (by kernel_rfl) (by simp) (AllReadyH.cons rfl (fun K hK=> ?_) (AllReadyH.cons rfl (fun K hK=> ?_) AllReadyH.nil))
          ·as_aux_lemma=>
            rw [if_pos (wantedN rfl)]
            as_aux_lemma=>
             go_step
             clear hHeld
             refine hK.out _ _ (HKP.out _ _ LE.out) (fun hHeld=> ?_)
             as_aux_lemma=>
              clear hK K
              try simp only [Act.put,List.setIfInBounds_toArray,List.set_cons_zero,List.set_cons_succ,List.getElem_toArray,List.getElem_cons_zero,List.getElem_cons_succ]
              as_aux_lemma=>
               refine wpAnyH_ready (rs:=[13]) (by kernel_rfl) (by simp) (AllReadyH.cons rfl (fun K hK=> ?_) AllReadyH.nil)
               as_aux_lemma=>
                rw [if_pos (wantedN rfl)]
                as_aux_lemma=>
                 refine bsLg rfl ⟨T',⟨n0,n1,n2,n3,n4,n5,n6,n7,n8⟩⟩ rfl ?_
                 clear hHeld
                 refine hK.out _ _ (HKP.out _ _ (LE.out.ak (aj _ _))) (fun hHeld=> ?_)
                 as_aux_lemma=>
                  clear hK K
                  try simp only [Act.put,List.setIfInBounds_toArray,List.set_cons_zero,List.set_cons_succ,List.getElem_toArray,List.getElem_cons_zero,List.getElem_cons_succ]
                  as_aux_lemma=>
                   refine wpAnyH_ready (rs:=[14]) (by kernel_rfl) (by simp) (AllReadyH.cons rfl (fun K hK=> ?_) AllReadyH.nil)
                   refine bf _ rfl (.tmp 135) (.tmp 147) _ rfl 0 TLg i0 _ 10 80 Tryz.underlying34 hi0 hz0 hz1 hz2 rfl (by decide) (.slice Ae es.length ce) es.length (dD es) (by rfl) (HOW.out _ (by repeat (first|assumption|exact Fr.refl _ _|refine Fr.alloc ?_ _|refine Fr.drew ?_|refine Fr.drewN ?_ _))).1 (w5.heap.size+1) (some ⟨w5.heap.size,0,none⟩) 1 1 (Lg.cells ⟨T',⟨n0,n1,n2,n3,n4,n5,n6,n7,n8⟩⟩) (by rfl) (fun h=>by cases h) (Rd.new w5 _ TLg rfl) rfl (by simp [Lg.cells,Value.oneCell']) (by unfold maxLen;(go_light;omega)) (by (go_light;omega)) (Nat.zero_le _) ?_
                   as_aux_lemma=>
                    intro v9 w9 happ
                    obtain ⟨A9,c9,rfl,o9,f9⟩:=bG.pushB (HOW.out _ (by repeat (first|assumption|exact Fr.refl _ _|refine Fr.alloc ?_ _|refine Fr.drew ?_|refine Fr.drewN ?_ _))) (by have:=HSZ.out;have:=Q5.size;simp;(go_light;omega)) happ
                    replace LE:=Lib.hid ((LE.out.ak (aj _ _)).frG f9 ⟨by (go_light;omega),by (go_light;omega),by (go_light;omega)⟩ (fun i hi=>by have:=hB2.1;have hi:g1+3≤i:=hi;(go_light;omega)))
                    obtain ⟨_,_,_,_,_,_,_,_,_,_,_,_,_,_,_,k89,kb9⟩:=LE.out.cells
                    have q89:=kb9.frozen 8
                    have O9:=Lib.hid o9
                    clear kb9 o9 f9 happ
                    clear hHeld
                    refine hK.out _ _ (HKP.out _ _ LE.out) (fun hHeld=> ?_)
                    as_aux_lemma=>
                     clear hK K
                     try simp only [Act.put,List.setIfInBounds_toArray,List.set_cons_zero,List.set_cons_succ,List.getElem_toArray,List.getElem_cons_zero,List.getElem_cons_succ]
                     as_aux_lemma=>
                      refine wpAnyH_take (i:=15) (v:= ?_) rfl (by kernel_rfl) (by kernel_rfl) (by kernel_rfl) (fun _ _ _ h=>h) (Or.inl ⟨by rfl,?_⟩) (by assumption) ?_
                      rotate_left
                      ·(intro w hSw;(try dsimp only at hSw);go_simp)<;>with_reducible rfl
                      simp only [Act.put,List.setIfInBounds_toArray,List.set_cons_zero,List.set_cons_succ,List.getElem_toArray,List.getElem_cons_zero,List.getElem_cons_succ]
                      as_aux_lemma=>
                       refine wpAnyH_ready (rs:=[16]) (by kernel_rfl) (by simp) (AllReadyH.cons rfl (fun K hK=> ?_) AllReadyH.nil)
                       rw [if_pos (wantedN rfl)]
                       as_aux_lemma=>
                        go_step
                        clear hHeld
                        refine hK.out _ _ (HKP.out _ _ (Lq.aj7 LE.out _)) (fun hHeld=> ?_)
                        as_aux_lemma=>
                         clear hK K
                         try simp only [Act.put,List.setIfInBounds_toArray,List.set_cons_zero,List.set_cons_succ,List.getElem_toArray,List.getElem_cons_zero,List.getElem_cons_succ]
                         as_aux_lemma=>
                          refine wpAnyH_done (by kernel_rfl) ?_ _
                          as_aux_lemma=>
                           go_wp2_with fail
                           go_roundw
                           case rel=>
                            refine ⟨k+1,T',?_,?_,?_,?_⟩
                            ·as_aux_lemma=>(go_light;omega)
                            ·as_aux_lemma=>go_num
                            ·as_aux_lemma=>rfl
                            ·as_aux_lemma=>exact LqL.push LE.out O9.out HES.out HOK.out HNK.out
                           case measure=>
                            ·as_aux_lemma=>(simp [intOf];(go_light;omega))
          ·as_aux_lemma=>
            rw [if_pos (wantedN rfl)]
            as_aux_lemma=>
             refine bsLg rfl ⟨T',⟨n0,n1,n2,n3,n4,n5,n6,n7,n8⟩⟩ rfl ?_
             clear hHeld
             refine hK.out _ _ (HKP.out _ _ (LE.out.ak (aj _ _))) (fun hHeld=> ?_)
             as_aux_lemma=>
              clear hK K
              try simp only [Act.put,List.setIfInBounds_toArray,List.set_cons_zero,List.set_cons_succ,List.getElem_toArray,List.getElem_cons_zero,List.getElem_cons_succ]
              as_aux_lemma=>
               refine wpAnyH_ready (rs:=[1]) (by kernel_rfl) (by simp) (AllReadyH.cons rfl (fun K hK=> ?_) AllReadyH.nil)
               as_aux_lemma=>
                rw [if_pos (wantedN rfl)]
                as_aux_lemma=>
                 go_step
                 clear hHeld
                 refine hK.out _ _ (HKP.out _ _ (LE.out.ak (aj _ _))) (fun hHeld=> ?_)
                 as_aux_lemma=>
                  clear hK K
                  try simp only [Act.put,List.setIfInBounds_toArray,List.set_cons_zero,List.set_cons_succ,List.getElem_toArray,List.getElem_cons_zero,List.getElem_cons_succ]
                  as_aux_lemma=>
                   refine wpAnyH_ready (rs:=[14]) (by kernel_rfl) (by simp) (AllReadyH.cons rfl (fun K hK=> ?_) AllReadyH.nil)
                   refine bf _ rfl (.tmp 135) (.tmp 147) _ rfl 0 TLg i0 _ 10 80 Tryz.underlying34 hi0 hz0 hz1 hz2 rfl (by decide) (.slice Ae es.length ce) es.length (dD es) (by rfl) (HOW.out _ (by repeat (first|assumption|exact Fr.refl _ _|refine Fr.alloc ?_ _|refine Fr.drew ?_|refine Fr.drewN ?_ _))).1 (w5.heap.size+1) (some ⟨w5.heap.size,0,none⟩) 1 1 (Lg.cells ⟨T',⟨n0,n1,n2,n3,n4,n5,n6,n7,n8⟩⟩) (by rfl) (fun h=>by cases h) (Rd.new w5 _ TLg rfl) rfl (by simp [Lg.cells,Value.oneCell']) (by unfold maxLen;(go_light;omega)) (by (go_light;omega)) (Nat.zero_le _) ?_
                   as_aux_lemma=>
                    intro v9 w9 happ
                    obtain ⟨A9,c9,rfl,o9,f9⟩:=bG.pushB (HOW.out _ (by repeat (first|assumption|exact Fr.refl _ _|refine Fr.alloc ?_ _|refine Fr.drew ?_|refine Fr.drewN ?_ _))) (by have:=HSZ.out;have:=Q5.size;simp;(go_light;omega)) happ
                    replace LE:=Lib.hid ((LE.out.ak (aj _ _)).frG f9 ⟨by (go_light;omega),by (go_light;omega),by (go_light;omega)⟩ (fun i hi=>by have:=hB2.1;have hi:g1+3≤i:=hi;(go_light;omega)))
                    obtain ⟨_,_,_,_,_,_,_,_,_,_,_,_,_,_,_,k89,kb9⟩:=LE.out.cells
                    have q89:=kb9.frozen 8
                    have O9:=Lib.hid o9
                    clear kb9 o9 f9 happ
                    clear hHeld
                    refine hK.out _ _ (HKP.out _ _ LE.out) (fun hHeld=> ?_)
                    as_aux_lemma=>
                     clear hK K
                     try simp only [Act.put,List.setIfInBounds_toArray,List.set_cons_zero,List.set_cons_succ,List.getElem_toArray,List.getElem_cons_zero,List.getElem_cons_succ]
                     as_aux_lemma=>
                      refine wpAnyH_take (i:=15) (v:= ?_) rfl (by kernel_rfl) (by kernel_rfl) (by kernel_rfl) (fun _ _ _ h=>h) (Or.inl ⟨by rfl,?_⟩) (by assumption) ?_
                      rotate_left
                      ·(intro w hSw;(try dsimp only at hSw);go_simp)<;>with_reducible rfl
                      simp only [Act.put,List.setIfInBounds_toArray,List.set_cons_zero,List.set_cons_succ,List.getElem_toArray,List.getElem_cons_zero,List.getElem_cons_succ]
                      as_aux_lemma=>
                       refine wpAnyH_ready (rs:=[16]) (by kernel_rfl) (by simp) (AllReadyH.cons rfl (fun K hK=> ?_) AllReadyH.nil)
                       rw [if_pos (wantedN rfl)]
                       as_aux_lemma=>
                        go_step
                        clear hHeld
                        refine hK.out _ _ (HKP.out _ _ (Lq.aj7 LE.out _)) (fun hHeld=> ?_)
                        as_aux_lemma=>
                         clear hK K
                         try simp only [Act.put,List.setIfInBounds_toArray,List.set_cons_zero,List.set_cons_succ,List.getElem_toArray,List.getElem_cons_zero,List.getElem_cons_succ]
                         as_aux_lemma=>
                          refine wpAnyH_done (by kernel_rfl) ?_ _
                          as_aux_lemma=>
                           go_wp2_with fail
                           go_roundw
                           case rel=>
                            refine ⟨k+1,T',?_,?_,?_,?_⟩
                            ·as_aux_lemma=>(go_light;omega)
                            ·as_aux_lemma=>go_num
                            ·as_aux_lemma=>rfl
                            ·as_aux_lemma=>exact LqL.push LE.out O9.out HES.out HOK.out HNK.out
                           case measure=>
                            ·as_aux_lemma=>(simp [intOf];(go_light;omega))
   ·have LZ:=LE.out
    have hb0:Blk wr ga TMs ms0:=LZ.zero
    have hfr:=LZ.frq
    have hgg:=LZ.big
    have q0:=hb0.frozen 0
    obtain ⟨z0,z1,z2,z3,z4,z5,z6,z7,z8⟩:wr.cell? ⟨ga,0,none⟩=some (.int .i64 0)∧wr.cell? ⟨ga,1,none⟩=some (.int .i64 0)∧wr.cell? ⟨ga,2,none⟩=some (.int .i64 0)∧wr.cell? ⟨ga,3,none⟩=some (.int .i64 0)∧wr.cell? ⟨ga,4,none⟩=some (.int .i64 0)∧wr.cell? ⟨ga,5,none⟩=some (.int .i64 0)∧wr.cell? ⟨ga,6,none⟩=some (.int .i64 0)∧wr.cell? ⟨ga,7,none⟩=some (.bool false)∧wr.cell? ⟨ga,8,none⟩=some (.slice none 0 0):=⟨hb0.cell 0,hb0.cell 1,hb0.cell 2,hb0.cell 3,hb0.cell 4,hb0.cell 5,hb0.cell 6,hb0.cell 7,hb0.cell 8⟩
    have y1:=hb0.frozen 1
    have y2:=hb0.frozen 2
    have y3:=hb0.frozen 3
    have y4:=hb0.frozen 4
    have y5:=hb0.frozen 5
    have y6:=hb0.frozen 6
    have y7:=hb0.frozen 7
    have y8:=hb0.frozen 8
    have HB0:=Lib.hid hb0
    have HFR:=Lib.hid hfr
    have HO:=Lib.hid ho
    have HOK:=Lib.hid hok
    have hend:∀E,E=Ending.returned (Ms.v ⟨kd,mf,mto,mt,ix,pv,cm,ok,es⟩ (.slice Ae es.length ce))→aoo w E (wr.setRow ga #[.int .i64 kd,.int .i64 mf,.int .i64 mto,.int .i64 mt,.int .i64 ix,.int .i64 pv,.int .i64 cm,.bool ok,.slice Ae es.length ce]):=fun E hE=>by
     refine ⟨⟨kd,mf,mto,mt,ix,pv,cm,ok,es⟩,Ae,ce,fun b=>g1+3≤b,hE,?_,fun i hi=> ?_,HOK.out,?_,frRow HFR.out (.inr (by (go_light;omega))) _⟩
     ·exact (Ent.iW HO.out).fr (frRow (F:=fun i=>i=ga) (Fr.refl _ _) (.inl rfl) _) fun i hi he=>by have hi:g1+3≤i:=hi;have he:i=ga:=he;(go_light;omega)
     ·have hi:g1+3≤i:=hi
      (go_light;omega)
     ·rw [show (⟨kd,mf,mto,mt,ix,pv,cm,ok,es⟩:Ms).es.length=k from hes]
      (go_light;omega)
    clear hb0 hfr ho hok LZ kb
    have dZ:=Lib.hid hend
    clear hend hes
    by_cases hlt2:k<len
    ·have b1:decide (k<len)=true:=decide_eq_true hlt2
     have b2:decide ((k:Int)<(len:Int))=true:=decide_eq_true (by (go_light;omega))
     have b3:(kd == 3)=false:=by simpa using fun h=>hlt ⟨hlt2,h⟩
     clear hlt
     go_upto_region 18 with fail
     clear z0 z1 z2 z3 z4 z5 z6 z7 z8 q0 y1 y2 y3 y4 y5 y6 y7 y8
     go_step
     go_step
     go_step
     (rename_i ak;refine ak _ _ ?_)
     refine wpList_plain rfl fun _ hK=>wp_store_row TMs _ _ rfl ga #[.int .i64 kd,.int .i64 mf,.int .i64 mto,.int .i64 mt,.int .i64 ix,.int .i64 pv,.int .i64 cm,.bool ok,.slice Ae es.length ce] rfl rfl TMs ms0 HB0.out (by kernel_rfl) rfl (by simp [Value.oneCell']) (hK _ _ ?_)
     go_wp2_with fail
     exact bodyPost_ret (v:=Ms.v ⟨kd,mf,mto,mt,ix,pv,cm,ok,es⟩ (.slice Ae es.length ce)) (lJ ⟨kd,mf,mto,mt,ix,pv,cm,ok,es⟩ _ ga _ _ (blkRow HB0.out _) rfl) rfl (dZ.out _ rfl)
    ·have b1:decide (k<len)=false:=decide_eq_false hlt2
     have b2:decide ((k:Int)<(len:Int))=false:=decide_eq_false (by (go_light;omega))
     clear hlt
     go_upto_region 18 with fail
     clear z0 z1 z2 z3 z4 z5 z6 z7 z8 q0 y1 y2 y3 y4 y5 y6 y7 y8
     go_step
     go_step
     go_step
     (rename_i ak;refine ak _ _ ?_)
     refine wpList_plain rfl fun _ hK=>wp_store_row TMs _ _ rfl ga #[.int .i64 kd,.int .i64 mf,.int .i64 mto,.int .i64 mt,.int .i64 ix,.int .i64 pv,.int .i64 cm,.bool ok,.slice Ae es.length ce] rfl rfl TMs ms0 HB0.out (by kernel_rfl) rfl (by simp [Value.oneCell']) (hK _ _ ?_)
     go_wp2_with fail
     exact bodyPost_ret (v:=Ms.v ⟨kd,mf,mto,mt,ix,pv,cm,ok,es⟩ (.slice Ae es.length ce)) (lJ ⟨kd,mf,mto,mt,ix,pv,cm,ok,es⟩ _ ga _ _ (blkRow HB0.out _) rfl) rfl (dZ.out _ rfl)
end Go.Proofs.YtjnfmfmglehmbaaGreat
